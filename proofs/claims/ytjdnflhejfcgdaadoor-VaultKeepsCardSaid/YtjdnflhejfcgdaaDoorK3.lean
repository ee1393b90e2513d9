import Derived.Test.YtjdnflhejfcgdaaDoorK2

/-
  Records of numbers.
-/
namespace Go.Proofs.YtjdnflhejfcgdaaDoor
open Go Go.SL Go.Proofs

structure Num where
  w : Int
  v : Int
def Num.cells (x : Num) : Array Value := #[.int .i64 x.w, .int .u64 x.v]
def Num.ok (x : Num) : Prop := 1 ≤ x.w ∧ x.w ≤ 8 ∧ (x.w < 8 → bShr .u64 x.v (8 * x.w) = 0)
def numB (x : Num) : List Int := (List.range x.w.toNat).map fun i : Nat => IntKind.u8.wrap (bShr .u64 x.v (8 * (x.w - 1 - (i : Int))))
def packF (l : List Num) : List Int := l.flatMap numB
theorem numB_len (x : Num) : (numB x).length = x.w.toNat := by simp [numB]
theorem numB_succ (x : Num) {i : Nat} (h : i < x.w.toNat) : (numB x).take (i + 1) = (numB x).take i ++ [IntKind.u8.wrap (bShr .u64 x.v (8 * (x.w - 1 - (i : Int))))] := by
  rw [List.take_succ_eq_append_getElem (by rw [numB_len]; exact h)]; simp [numB]
theorem num_get {l : List Num} {g : Nat} (h : g < l.length) : (l.map Num.cells).getD g #[] = l[g].cells := by simp [h]
def sizeN (l : List Num) : Int := (l.map Num.w).sum
theorem packF_len : ∀ {l : List Num}, (∀ x ∈ l, x.ok) → ((packF l).length : Int) = sizeN l ∧ sizeN l ≤ 8 * l.length
  | [], _ => by simp [packF, sizeN]
  | x :: r, h => by
    have h1 := h x (by simp)
    have h2 := packF_len (l := r) (fun y hy => h y (by simp [hy]))
    simp only [packF, sizeN, List.flatMap_cons, List.length_append, numB_len, List.map_cons, List.sum_cons, List.length_cons] at h2 ⊢
    unfold Num.ok at h1
    omega

theorem pack_isWidth (w : Int) {L : List HP} : Tr Tryd.prog 99 [.int .i64 w].toArray L (fun v L' => v = .bool (decide (1 ≤ w ∧ w ≤ 8)) ∧ L = L') := by
  refine tr_enter Tryd.func99 rfl Tryd.ntmps99 rfl fun w0 => ?_
  repeat' (first
    | refine swl_op ?_
    | (refine s1_move ?_; refine sc_r (R_move (by rfl)) (by rfl) ?_)
    | (refine s1_assign ?_; refine sc_r (R_assign (by rfl)) (by rfl) ?_)
    | (refine s1_pick ?_; first | refine sc_r (R_pick_t (by rfl) (by rfl)) (by rfl) ?_ | refine sc_r (R_pick_f (by rfl) (by rfl)) (by rfl) ?_)
    | (refine s1_bin ?_; first | refine sc_r (R_leq (by rfl) (by rfl)) (by rfl) ?_ | refine sc_r (R_geq (by rfl) (by rfl)) (by rfl) ?_)
    | refine swl_nil ?_
    | refine sx_next ?_
    | refine sw_seq ?_
    | refine sw_region ?_
    | refine swl_g_on (by rfl) (by rfl) ?_
    | refine swl_g_off (by rfl) (by rfl) (by rfl) (by rfl) ?_
    | refine swl_g_dec (by rfl) (by rfl) (fun hp => ?_) (fun hp => ?_)
    | refine sw_ret ?_
    | fail)
  all_goals refine sx_ret_of (res1 rfl (ResOne.tmp rfl)) L ⟨?_, rfl⟩ (by (repeat (first | exact Ent.refl _ | exact Ent.nil | (apply Ent.pick; focus ((repeat (first | exact Rem.here | apply Rem.there)); done)) | apply Ent.drop)))
  all_goals (congr 1; simp; omega)
theorem pack_isWidth' (w : Int) (h : 1 ≤ w ∧ w ≤ 8) {L : List HP} : Tr Tryd.prog 99 [.int .i64 w].toArray L (fun v L' => v = .bool true ∧ L = L') := by
  have := pack_isWidth w (L := L)
  rwa [decide_eq_true h] at this

set_option maxHeartbeats 1000000 in
theorem pack_Pack (l : List Num) (hok : ∀ x ∈ l, x.ok) (h1000 : l.length ≤ 1000) {L : List HP} {p : Option Addr} {m cp : Nat} (hl : SlC L p 2 m cp (l.map Num.cells)) :
    Tr Tryd.prog 70 [.slice p m cp].toArray L (fun v L' => ∃ s, v = .tuple #[s, .int .i64 0] ∧ L' = vec 5 1 ((packF l).map u8c) s :: L) := by
  have hlen : l.length = m := by simpa using hl.len
  refine tr_enter Tryd.func70 rfl Tryd.ntmps70 rfl fun w0 => ?_
  repeat' (first
    | refine swl_op ?_
    | (refine s1_move ?_; refine sc_r (R_move (by rfl)) (by rfl) ?_)
    | (refine s1_assign ?_; refine sc_r (R_assign (by rfl)) (by rfl) ?_)
    | (refine s1_call ?_; refine sc_r (R_len (by rfl)) (by rfl) ?_)
    | refine swl_nil ?_
    | refine sx_next ?_
    | refine sw_seq ?_
    | refine sw_region ?_
    | refine sw_block ?_
    | fail)
  refine sw_loop (γ := Nat) (fun g => m - g) (fun g => [(0, .slice p m cp), (11, .slice p m cp), (12, .int .i64 m), (13, .int .i64 g), (4, .int .i64 (sizeN (l.take g)))]) (fun _ => L) (fun g => g ≤ m) 0 (by omega)
    (subE.cons rfl (subE.cons rfl (subE.cons rfl (subE.cons rfl (subE.cons rfl subE.nil))))) (by (repeat (first | exact Ent.refl _ | exact Ent.nil | (apply Ent.pick; focus ((repeat (first | exact Rem.here | apply Rem.there)); done)) | apply Ent.drop))) ?_
  intro g hg
  have hsz := packF_len (l := l.take g) (fun x hx => hok x (List.mem_of_mem_take hx))
  rw [List.length_take] at hsz
  by_cases hlt : g < m
  · obtain ⟨b1, o1, rfl⟩ := hl.ptr (by omega)
    have hl1 : g < l.length := by omega
    have he1 := num_get hl1
    have hts := List.take_succ_eq_append_getElem hl1
    have hx := hok l[g] (List.getElem_mem hl1)
    generalize l[g] = x at *
    have hx' : (sizeN (l.take (g + 1))) = sizeN (l.take g) + x.w := by rw [hts]; simp [sizeN]
    obtain ⟨hx1, hx2, hx3⟩ := hx
    unfold Num.cells at he1
    by_cases h8 : x.w < 8
    · have h3 := hx3 h8
      repeat' (first
    | (refine s1_bin ?_; refine sc_r (show OpR _ _ _ _ _ _ _ (.int .u64 0) from h3 ▸ R_shr (by rfl) (by rfl) (by omega)) (by rfl) ?_)
    | refine swl_op ?_
    | (refine s1_move ?_; refine sc_r (R_move (by rfl)) (by rfl) ?_)
    | (refine s1_load ?_; first | refine sc_r (L_load' (by rfl) (by infer_instance) (by rfl)) (by rfl) ?_ | refine sc_r (L_load_el (by rfl) (by infer_instance) (by infer_instance) (by omega) (by first | assumption | rfl)) (by rfl) ?_)
    | (refine s1_fieldAddr ?_; refine sc_r (R_fieldAddr (by rfl)) (by rfl) ?_)
    | (refine s1_assign ?_; refine sc_r (R_assign (by rfl)) (by rfl) ?_)
    | (refine s1_pick ?_; refine sc_r (R_pick_t (by rfl) (by rfl)) (by rfl) ?_)
    | (refine s1_bin ?_; first | refine sc_r (R_lss (by rfl) (by rfl)) (by rfl) ?_ | refine sc_r (R_add64 (by rfl) (by rfl) (by omega)) (by rfl) ?_ | refine sc_r (R_neq (by rfl) (by rfl)) (by rfl) ?_ | refine sc_r (R_mul64 (by rfl) (by rfl) (by first | assumption | omega)) (by rfl) ?_)
    | (refine s1_call ?_; (refine sc_c (by rfl) (C_call (by rfl) (by infer_instance) (by rfl) (by rfl) (pack_isWidth' x.w ⟨hx1, hx2⟩)) (by rfl) ?_; rintro _ _ ⟨rfl, rfl⟩))
    | (refine s1_indexAddr ?_; refine sc_r (R_indexAddr (by rfl) (by rfl) (by omega)) (by rfl) ?_)
    | (refine s1_store ?_; (refine sc_w (by rfl) (W_storeAll (by rfl) (by rfl) (by infer_instance) (by rfl) (by rfl) (by rfl)) (by rfl) ?_; rintro _ _ ⟨rfl, rfl⟩))
    | (refine s1_alloc ?_; (refine sc_w (by rfl) W_allocA (by rfl) ?_; rintro _ _ ⟨_, rfl, rfl⟩))
    | (refine s1_any ?_; refine sc_r (R_not (by rfl)) (by rfl) ?_)
    | refine swl_nil ?_
    | refine sx_next ?_
    | refine sw_seq ?_
    | refine sw_region ?_
    | refine sw_block ?_
    | refine swl_g_on (by rfl) (by rfl) ?_
    | refine swl_g_pos (by rfl) (by rfl) (by first | assumption | omega) ?_
    | refine sx_block_normal ?_
    | refine sw_cond_false (by rfl) ?_
    | refine sw_cond_pos (by rfl) (by first | assumption | omega) ?_
    | refine sw_skip ?_
    | fail)
      refine sx_back (g + 1) (by omega) (by omega) ?_ (by (repeat (first | exact Ent.refl _ | exact Ent.nil | (apply Ent.pick; focus ((repeat (first | exact Rem.here | apply Rem.there)); done)) | apply Ent.drop)))
      rw [hx']
      exact (subE.cons rfl (subE.cons rfl (subE.cons rfl (subE.cons rfl (subE.cons rfl subE.nil)))))
    · repeat' (first
    | refine swl_op ?_
    | (refine s1_move ?_; refine sc_r (R_move (by rfl)) (by rfl) ?_)
    | (refine s1_load ?_; first | refine sc_r (L_load' (by rfl) (by infer_instance) (by rfl)) (by rfl) ?_ | refine sc_r (L_load_el (by rfl) (by infer_instance) (by infer_instance) (by omega) (by first | assumption | rfl)) (by rfl) ?_)
    | (refine s1_fieldAddr ?_; refine sc_r (R_fieldAddr (by rfl)) (by rfl) ?_)
    | (refine s1_assign ?_; refine sc_r (R_assign (by rfl)) (by rfl) ?_)
    | (refine s1_pick ?_; refine sc_r (R_pick_f (by rfl) (by rfl)) (by rfl) ?_)
    | (refine s1_bin ?_; first | refine sc_r (R_lss (by rfl) (by rfl)) (by rfl) ?_ | refine sc_r (R_add64 (by rfl) (by rfl) (by omega)) (by rfl) ?_)
    | (refine s1_call ?_; (refine sc_c (by rfl) (C_call (by rfl) (by infer_instance) (by rfl) (by rfl) (pack_isWidth' x.w ⟨hx1, hx2⟩)) (by rfl) ?_; rintro _ _ ⟨rfl, rfl⟩))
    | (refine s1_indexAddr ?_; refine sc_r (R_indexAddr (by rfl) (by rfl) (by omega)) (by rfl) ?_)
    | (refine s1_store ?_; (refine sc_w (by rfl) (W_storeAll (by rfl) (by rfl) (by infer_instance) (by rfl) (by rfl) (by rfl)) (by rfl) ?_; rintro _ _ ⟨rfl, rfl⟩))
    | (refine s1_alloc ?_; (refine sc_w (by rfl) W_allocA (by rfl) ?_; rintro _ _ ⟨_, rfl, rfl⟩))
    | (refine s1_any ?_; refine sc_r (R_not (by rfl)) (by rfl) ?_)
    | refine swl_nil ?_
    | refine sx_next ?_
    | refine sw_seq ?_
    | refine sw_region ?_
    | refine sw_block ?_
    | refine swl_g_off (by rfl) (by rfl) (by rfl) (by rfl) ?_
    | refine swl_g_neg (by rfl) (by rfl) (by first | assumption | omega) ?_
    | refine sx_block_normal ?_
    | refine sw_cond_false (by rfl) ?_
    | refine sw_cond_pos (by rfl) (by first | assumption | omega) ?_
    | refine sw_skip ?_
    | fail)
      refine sx_back (g + 1) (by omega) (by omega) ?_ (by (repeat (first | exact Ent.refl _ | exact Ent.nil | (apply Ent.pick; focus ((repeat (first | exact Rem.here | apply Rem.there)); done)) | apply Ent.drop)))
      rw [hx']
      exact (subE.cons rfl (subE.cons rfl (subE.cons rfl (subE.cons rfl (subE.cons rfl subE.nil)))))
  · rw [List.take_of_length_le (by omega)] at hsz ⊢
    have hb0 : 0 ≤ sizeN l ∧ sizeN l ≤ 8000 := by omega
    have hpl : (packF l).length ≤ 8000 := by have := packF_len hok; omega
    repeat' (first
    | refine swl_op ?_
    | (refine s1_move ?_; refine sc_r (R_move (by rfl)) (by rfl) ?_)
    | (refine s1_assign ?_; refine sc_r (R_assign (by rfl)) (by rfl) ?_)
    | (refine s1_bin ?_; refine sc_r (R_lss (by rfl) (by rfl)) (by rfl) ?_)
    | (refine s1_call ?_; refine sc_r (R_len (by rfl)) (by rfl) ?_)
    | (refine s1_any ?_; (refine sc_w (by rfl) (W_makeSlice (n' := 0) (c' := (sizeN l).toNat) (zc := u8c 0) (by rfl) (by rfl) (by rfl) (by rfl) (by rfl) (by omega) (by omega)) (by rfl) ?_; rintro _ _ ⟨b0, rfl, hok0, rfl⟩))
    | refine swl_nil ?_
    | refine sx_next ?_
    | refine sw_seq ?_
    | refine sw_region ?_
    | refine sw_block ?_
    | refine sx_past_exit ?_
    | refine sx_block_here ?_
    | refine sw_cond_neg (by rfl) (by first | assumption | omega) ?_
    | refine sw_exit ?_
    | fail)
    refine sw_loop (γ := Nat × Value) (fun g => m - g.1) (fun g => [(0, .slice p m cp), (7, g.2), (40, .slice p m cp), (41, .int .i64 m), (42, .int .i64 g.1)]) (fun g => vec 5 1 ((packF (l.take g.1)).map u8c) g.2 :: L) (fun g => g.1 ≤ m) (0, .slice (some ⟨b0, 0, none⟩) 0 (sizeN l).toNat) (by simp)
      (subE.cons rfl (subE.cons rfl (subE.cons rfl (subE.cons rfl (subE.cons rfl subE.nil))))) (by exact Ent.refl _) ?_
    rintro ⟨g, s⟩ hg
    dsimp only at hg ⊢
    by_cases hlt : g < m
    · obtain ⟨b1, o1, rfl⟩ := hl.ptr (by omega)
      have hl1 : g < l.length := by omega
      have he1 := num_get hl1
      have hts := List.take_succ_eq_append_getElem hl1
      have hx := hok l[g] (List.getElem_mem hl1)
      have hpg := packF_len (l := l.take g) (fun x hx => hok x (List.mem_of_mem_take hx))
      rw [List.length_take] at hpg
      generalize l[g] = x at *
      have hx' : packF (l.take (g + 1)) = packF (l.take g) ++ numB x := by rw [hts]; simp [packF]
      obtain ⟨hx1, hx2, hx3⟩ := hx
      unfold Num.cells at he1
      generalize packF (l.take g) = A at *
      repeat' (first
    | refine swl_op ?_
    | (refine s1_move ?_; refine sc_r (R_move (by rfl)) (by rfl) ?_)
    | (refine s1_load ?_; first | refine sc_r (L_load' (by rfl) (by infer_instance) (by rfl)) (by rfl) ?_ | refine sc_r (L_load_el (by rfl) (by infer_instance) (by infer_instance) (by omega) (by first | assumption | rfl)) (by rfl) ?_)
    | (refine s1_fieldAddr ?_; refine sc_r (R_fieldAddr (by rfl)) (by rfl) ?_)
    | (refine s1_bin ?_; refine sc_r (R_lss (by rfl) (by rfl)) (by rfl) ?_)
    | (refine s1_indexAddr ?_; refine sc_r (R_indexAddr (by rfl) (by rfl) (by omega)) (by rfl) ?_)
    | (refine s1_store ?_; (refine sc_w (by rfl) (W_storeAll (by rfl) (by rfl) (by infer_instance) (by rfl) (by rfl) (by rfl)) (by rfl) ?_; rintro _ _ ⟨rfl, rfl⟩))
    | (refine s1_alloc ?_; (refine sc_w (by rfl) W_allocA (by rfl) ?_; rintro _ _ ⟨_, rfl, rfl⟩))
    | refine swl_nil ?_
    | refine sx_next ?_
    | refine sw_seq ?_
    | refine sw_region ?_
    | refine sw_block ?_
    | refine sw_cond_pos (by rfl) (by first | assumption | omega) ?_
    | refine sw_skip ?_
    | fail)
      rename_i b9
      refine sw_loop (γ := Nat × Value) (fun i => x.w.toNat - i.1) (fun i => [(0, .slice (some ⟨b1, o1, none⟩) m cp), (7, i.2), (40, .slice (some ⟨b1, o1, none⟩) m cp), (41, .int .i64 m), (42, .int .i64 g), (9, .pointer (some ⟨b9, 0, none⟩)), (47, .int .i64 x.w), (48, .int .i64 i.1)]) (fun i => vec 5 1 ((A ++ (numB x).take i.1).map u8c) i.2 :: pt b9 (.cells #[.int .i64 x.w, .int .u64 x.v] 131) :: L) (fun i => i.1 ≤ x.w.toNat) (0, s) (by simp)
        (subE.cons rfl (subE.cons rfl (subE.cons rfl (subE.cons rfl (subE.cons rfl (subE.cons rfl (subE.cons rfl (subE.cons rfl subE.nil)))))))) (by rw [List.take_zero, List.append_nil]; (repeat (first | exact Ent.refl _ | exact Ent.nil | (apply Ent.pick; focus ((repeat (first | exact Rem.here | apply Rem.there)); done)) | apply Ent.drop))) ?_
      rintro ⟨i, s1⟩ hi
      dsimp only at hi ⊢
      by_cases hlt2 : i < x.w.toNat
      · have hns := numB_succ x hlt2
        have hle : ((A ++ (numB x).take i).map u8c).length ≤ 9000 := by simp [numB_len]; omega
        repeat' (first
    | refine swl_op ?_
    | (refine s1_move ?_; refine sc_r (R_move (by rfl)) (by rfl) ?_)
    | (refine s1_load ?_; refine sc_r (L_load' (by rfl) (by infer_instance) (by rfl)) (by rfl) ?_)
    | (refine s1_fieldAddr ?_; refine sc_r (R_fieldAddr (by rfl)) (by rfl) ?_)
    | (refine s1_assign ?_; refine sc_r (R_assign (by rfl)) (by rfl) ?_)
    | (refine s1_bin ?_; first | refine sc_r (R_lss (by rfl) (by rfl)) (by rfl) ?_ | refine sc_r (R_add64 (by rfl) (by rfl) (by omega)) (by rfl) ?_ | refine sc_r (R_sub64 (by rfl) (by rfl) (by omega)) (by rfl) ?_ | refine sc_r (R_mul64 (by rfl) (by rfl) (by first | assumption | omega)) (by rfl) ?_ | refine sc_r (R_shr (by rfl) (by rfl) (by omega)) (by rfl) ?_)
    | (refine s1_call ?_; (refine sc_w (by rfl) (W_append1 (by rfl) (by rfl) (by focus ((repeat (first | exact Rem.here | apply Rem.there)); done)) (by infer_instance) (by rfl) (by rfl) (by first | assumption | omega)) (by rfl) ?_; rintro _ _ rfl))
    | (refine s1_conv ?_; refine sc_r (R_conv (by rfl)) (by rfl) ?_)
    | (refine s1_any ?_; (refine sc_w (by rfl) (W_buildSlice1s (by rfl) (by rfl)) (by rfl) ?_; rintro _ _ ⟨_, rfl, rfl⟩))
    | refine swl_nil ?_
    | refine sx_next ?_
    | refine sw_seq ?_
    | refine sw_region ?_
    | refine sw_block ?_
    | refine sx_block_normal ?_
    | refine sw_cond_pos (by rfl) (by first | assumption | omega) ?_
    | refine sw_skip ?_
    | fail)
        refine sx_back (i + 1, _) (by simp only; omega) (by simp only; omega) (subE.cons rfl (subE.cons rfl (subE.cons rfl (subE.cons rfl (subE.cons rfl (subE.cons rfl (subE.cons rfl (subE.cons rfl subE.nil)))))))) ?_
        dsimp only
        rw [hns, ← List.append_assoc, List.map_append (l₁ := A ++ (numB x).take i)]
        (repeat (first | exact Ent.refl _ | exact Ent.nil | (apply Ent.pick; focus ((repeat (first | exact Rem.here | apply Rem.there)); done)) | apply Ent.drop))
      · repeat' (first
    | refine swl_op ?_
    | (refine s1_move ?_; refine sc_r (R_move (by rfl)) (by rfl) ?_)
    | (refine s1_bin ?_; first | refine sc_r (R_lss (by rfl) (by rfl)) (by rfl) ?_ | refine sc_r (R_add64 (by rfl) (by rfl) (by omega)) (by rfl) ?_)
    | refine swl_nil ?_
    | refine sx_next ?_
    | refine sw_seq ?_
    | refine sw_region ?_
    | refine sx_past_exit ?_
    | refine sx_block_normal ?_
    | refine sx_block_here ?_
    | refine sw_cond_neg (by rfl) (by first | assumption | omega) ?_
    | refine sw_exit ?_
    | fail)
        refine sx_back (g + 1, _) (by simp only; omega) (by simp only; omega) (subE.cons rfl (subE.cons rfl (subE.cons rfl (subE.cons rfl (subE.cons rfl subE.nil))))) ?_
        dsimp only
        rw [hx', List.take_of_length_le (by rw [numB_len]; omega)]
        (repeat (first | exact Ent.refl _ | exact Ent.nil | (apply Ent.pick; focus ((repeat (first | exact Rem.here | apply Rem.there)); done)) | apply Ent.drop))
    · repeat' (first
    | refine swl_op ?_
    | (refine s1_move ?_; refine sc_r (R_move (by rfl)) (by rfl) ?_)
    | (refine s1_assign ?_; refine sc_r (R_assign (by rfl)) (by rfl) ?_)
    | (refine s1_bin ?_; refine sc_r (R_lss (by rfl) (by rfl)) (by rfl) ?_)
    | refine swl_nil ?_
    | refine sx_next ?_
    | refine sw_seq ?_
    | refine sw_region ?_
    | refine sx_past_exit ?_
    | refine sx_block_here ?_
    | refine sw_cond_neg (by rfl) (by first | assumption | omega) ?_
    | refine sw_ret ?_
    | refine sw_exit ?_
    | fail)
      rw [List.take_of_length_le (by omega)]
      exact sx_ret_of (res2 rfl (ResOne.tmp rfl) (ResOne.tmp rfl)) _ ⟨_, rfl, rfl⟩ (by (repeat (first | exact Ent.refl _ | exact Ent.nil | (apply Ent.pick; focus ((repeat (first | exact Rem.here | apply Rem.there)); done)) | apply Ent.drop)))

def clearF (l : List Int) (k : Int) : Bool := decide (0 ≤ k ∧ k ≤ l.length) && (l.drop k.toNat).all fun z => decide (z = 0)

theorem pack_Clear (l : List Int) (k : Int) {L : List HP} {p : Option Addr} {n c : Nat} (hl : SlC L p 1 n c (l.map u8c)) :
    Tr Tryd.prog 78 [.slice p n c, .int .i64 k].toArray L (fun v L' => v = .bool (clearF l k) ∧ L = L') := by
  have hlen : l.length = n := by simpa using hl.len
  have hbd := hl.bd
  refine tr_enter Tryd.func78 rfl Tryd.ntmps78 rfl fun w0 => ?_
  by_cases hk : 0 ≤ k ∧ k ≤ n
  · repeat' (first
    | refine swl_op ?_
    | (refine s1_move ?_; refine sc_r (R_move (by rfl)) (by rfl) ?_)
    | (refine s1_assign ?_; refine sc_r (R_assign (by rfl)) (by rfl) ?_)
    | (refine s1_pick ?_; refine sc_r (R_pick_f (by rfl) (by rfl)) (by rfl) ?_)
    | (refine s1_bin ?_; first | refine sc_r (R_lss (by rfl) (by rfl)) (by rfl) ?_ | refine sc_r (R_gtr (by rfl) (by rfl)) (by rfl) ?_ | refine sc_r (R_sub64 (by rfl) (by rfl) (by omega)) (by rfl) ?_)
    | (refine s1_call ?_; refine sc_r (R_len (by rfl)) (by rfl) ?_)
    | refine swl_nil ?_
    | refine sx_next ?_
    | refine sw_seq ?_
    | refine sw_region ?_
    | refine sw_block ?_
    | refine swl_g_on (by rfl) (by rfl) ?_
    | refine swl_g_neg (by rfl) (by rfl) (by first | assumption | omega) ?_
    | refine sw_cond_neg (by rfl) (by first | assumption | omega) ?_
    | refine sw_skip ?_
    | fail)
    refine sw_loop (γ := Nat) (fun i => n - i) (fun i => [(0, .slice p n c), (1, .int .i64 k), (17, .int .i64 (n - k)), (18, .int .i64 i)]) (fun _ => L) (fun i => (i : Int) ≤ n - k ∧ ∀ j < i, l[k.toNat + j]? = some 0) 0 ⟨by omega, by simp⟩
      (subE.cons rfl (subE.cons rfl (subE.cons rfl (subE.cons rfl subE.nil)))) (by (repeat (first | exact Ent.refl _ | exact Ent.nil | (apply Ent.pick; focus ((repeat (first | exact Rem.here | apply Rem.there)); done)) | apply Ent.drop))) ?_
    intro i ⟨hi, hj⟩
    by_cases hlt : (i : Int) < n - k
    · obtain ⟨b0, o0, rfl⟩ := hl.ptr (by omega)
      have hl1 : k.toNat + i < l.length := by omega
      have he1 : (l.map u8c).getD ((k + (i : Int)).toNat) #[] = #[Value.int .u8 l[k.toNat + i]] := by
        rw [show (k + (i : Int)).toNat = k.toNat + i by omega]; exact u8_get hl1
      have hgl : l[k.toNat + i]? = some l[k.toNat + i] := List.getElem?_eq_getElem hl1
      generalize l[k.toNat + i] = z at *
      repeat' (first
    | refine swl_op ?_
    | (refine s1_move ?_; refine sc_r (R_move (by rfl)) (by rfl) ?_)
    | (refine s1_load ?_; refine sc_r (L_load_el1 (by rfl) (by infer_instance) (by omega) (by first | assumption | rfl)) (by rfl) ?_)
    | (refine s1_assign ?_; refine sc_r (R_assign (by rfl)) (by rfl) ?_)
    | (refine s1_bin ?_; first | refine sc_r (R_lss (by rfl) (by rfl)) (by rfl) ?_ | refine sc_r (R_add64 (by rfl) (by rfl) (by omega)) (by rfl) ?_ | refine sc_r (R_neq (by rfl) (by rfl)) (by rfl) ?_)
    | (refine s1_indexAddr ?_; refine sc_r (R_indexAddr (by rfl) (by rfl) (by omega)) (by rfl) ?_)
    | refine swl_nil ?_
    | refine sx_next ?_
    | refine sw_seq ?_
    | refine sw_region ?_
    | refine sw_block ?_
    | refine sx_past_ret ?_
    | refine sx_block_normal ?_
    | refine sx_block_ret ?_
    | refine sw_cond_pos (by rfl) (by first | assumption | omega) ?_
    | refine sw_cond_not (by rfl) (fun hp => ?_) (fun hp => ?_)
    | refine sw_ret ?_
    | refine sw_skip ?_
    | fail)
      · refine sx_ret_of (res1 rfl (ResOne.tmp rfl)) L ⟨?_, rfl⟩ (by (repeat (first | exact Ent.refl _ | exact Ent.nil | (apply Ent.pick; focus ((repeat (first | exact Rem.here | apply Rem.there)); done)) | apply Ent.drop)))
        have : clearF l k = false := by
          simp only [clearF, Bool.and_eq_false_iff, List.all_eq_false]
          refine .inr ⟨z, ?_, by simpa using hp⟩
          rw [List.mem_iff_getElem?]
          exact ⟨i, by rw [List.getElem?_drop]; exact hgl⟩
        rw [this]
      · refine sx_back (i + 1) (by omega) ⟨by omega, fun j hj1 => ?_⟩ (subE.cons rfl (subE.cons rfl (subE.cons rfl (subE.cons rfl subE.nil)))) (by (repeat (first | exact Ent.refl _ | exact Ent.nil | (apply Ent.pick; focus ((repeat (first | exact Rem.here | apply Rem.there)); done)) | apply Ent.drop)))
        rcases Nat.lt_or_ge j i with h | h
        · exact hj j h
        · obtain rfl : j = i := by omega
          rw [hgl, hp]
    · repeat' (first
    | refine swl_op ?_
    | (refine s1_assign ?_; refine sc_r (R_assign (by rfl)) (by rfl) ?_)
    | (refine s1_bin ?_; refine sc_r (R_lss (by rfl) (by rfl)) (by rfl) ?_)
    | refine swl_nil ?_
    | refine sx_next ?_
    | refine sw_seq ?_
    | refine sw_region ?_
    | refine sx_past_exit ?_
    | refine sx_block_here ?_
    | refine sw_cond_neg (by rfl) (by first | assumption | omega) ?_
    | refine sw_ret ?_
    | refine sw_exit ?_
    | fail)
      refine sx_ret_of (res1 rfl (ResOne.tmp rfl)) L ⟨?_, rfl⟩ (by (repeat (first | exact Ent.refl _ | exact Ent.nil | (apply Ent.pick; focus ((repeat (first | exact Rem.here | apply Rem.there)); done)) | apply Ent.drop)))
      have : clearF l k = true := by
        simp only [clearF, Bool.and_eq_true, decide_eq_true_eq, List.all_eq_true]
        refine ⟨⟨hk.1, by omega⟩, fun z hz => ?_⟩
        obtain ⟨j, hj1⟩ := List.mem_iff_getElem?.1 hz
        rw [List.getElem?_drop] at hj1
        have h2 : k.toNat + j < l.length := (List.getElem?_eq_some_iff.1 hj1).1
        rw [hj j (by omega)] at hj1
        exact (Option.some.inj hj1).symm
      rw [this]
  · have hcf : clearF l k = false := by
      simp only [clearF, Bool.and_eq_false_iff, decide_eq_false_iff_not]; exact .inl (by omega)
    rw [hcf]
    repeat' (first
    | refine swl_op ?_
    | (refine s1_move ?_; refine sc_r (R_move (by rfl)) (by rfl) ?_)
    | (refine s1_assign ?_; refine sc_r (R_assign (by rfl)) (by rfl) ?_)
    | (refine s1_pick ?_; first | refine sc_r (R_pick_t (by rfl) (by rfl)) (by rfl) ?_ | refine sc_r (R_pick_f (by rfl) (by rfl)) (by rfl) ?_)
    | (refine s1_bin ?_; first | refine sc_r (R_lss (by rfl) (by rfl)) (by rfl) ?_ | refine sc_r (R_gtr (by rfl) (by rfl)) (by rfl) ?_)
    | (refine s1_call ?_; refine sc_r (R_len (by rfl)) (by rfl) ?_)
    | refine swl_nil ?_
    | refine sx_next ?_
    | refine sw_seq ?_
    | refine sw_region ?_
    | refine swl_g_on (by rfl) (by rfl) ?_
    | refine swl_g_off (by rfl) (by rfl) (by rfl) (by rfl) ?_
    | refine swl_g_dec (by rfl) (by rfl) (fun hp => ?_) (fun hp => ?_)
    | refine sx_past_ret ?_
    | refine sw_cond_true (by rfl) ?_
    | refine sw_cond_pos (by rfl) (by first | assumption | omega) ?_
    | refine sw_ret ?_
    | fail)
    all_goals exact sx_ret_of (res1 rfl (ResOne.tmp rfl)) L ⟨rfl, rfl⟩ (by (repeat (first | exact Ent.refl _ | exact Ent.nil | (apply Ent.pick; focus ((repeat (first | exact Rem.here | apply Rem.there)); done)) | apply Ent.drop)))

def i64c (z : Int) : Array Value := #[.int .i64 z]
def u64c (z : Int) : Array Value := #[.int .u64 z]
def getN (v : Int) (l : List Int) : Int := l.foldl (fun v z => bOr .u64 (bShl .u64 v 8) (IntKind.u64.wrap z)) v
def unpackF : List Int → List Int → List Int
  | _, [] => []
  | b, w :: ws => getN 0 (b.take w.toNat) :: unpackF (b.drop w.toNat) ws
theorem unpackF_snoc : ∀ (ws b : List Int) (w : Int), (∀ x ∈ ws, 0 ≤ x) → unpackF b (ws ++ [w]) = unpackF b ws ++ [getN 0 ((b.drop ws.sum.toNat).take w.toNat)]
  | [], b, w, _ => by simp [unpackF]
  | x :: r, b, w, h => by
    have h1 := h x (by simp)
    have h2 := unpackF_snoc r (b.drop x.toNat) w (fun y hy => h y (by simp [hy]))
    have h3 : 0 ≤ r.sum := by
      clear h2 h1
      induction r with
      | nil => simp
      | cons y r ih => have := h y (by simp); have := ih (fun z hz => h z (by simp at hz ⊢; rcases hz with rfl | hz <;> simp [*])); simp; omega
    simp only [List.cons_append, unpackF, h2, List.drop_drop, List.sum_cons]
    rw [show (x + r.sum).toNat = x.toNat + r.sum.toNat by omega]
theorem unpackF_len : ∀ (ws b : List Int), (unpackF b ws).length = ws.length
  | [], _ => rfl
  | _ :: r, _ => by simp [unpackF, unpackF_len r]
theorem i64_get {l : List Int} {g : Nat} (h : g < l.length) : (l.map i64c).getD g #[] = #[Value.int .i64 l[g]] := by simp [h, i64c]
theorem sum_bd : ∀ (ws : List Int), (∀ x ∈ ws, 1 ≤ x ∧ x ≤ 8) → 0 ≤ ws.sum ∧ ws.sum ≤ 8 * ws.length
  | [], _ => by simp
  | x :: r, h => by
    have h1 := h x (by simp)
    have h2 := sum_bd r (fun y hy => h y (by simp [hy]))
    simp only [List.sum_cons, List.length_cons]; omega
theorem sum_take_le (ws : List Int) (h : ∀ x ∈ ws, 1 ≤ x ∧ x ≤ 8) (g : Nat) : (ws.take g).sum ≤ ws.sum := by
  have h1 := congrArg List.sum (List.take_append_drop g ws)
  rw [List.sum_append] at h1
  have h2 := sum_bd (ws.drop g) (fun x hx => h x (List.mem_of_mem_drop hx))
  omega
theorem getN_succ {v : Int} {l : List Int} {j : Nat} (h : j < l.length) : getN v (l.take (j + 1)) = bOr .u64 (bShl .u64 (getN v (l.take j)) 8) (IntKind.u64.wrap l[j]) := by
  unfold getN; rw [List.take_succ_eq_append_getElem h, List.foldl_append]; rfl

set_option maxHeartbeats 1000000 in
theorem pack_Unpack (b ws : List Int) (hok : ∀ x ∈ ws, 1 ≤ x ∧ x ≤ 8) (h1000 : ws.length ≤ 1000) (hroom : ws.sum ≤ b.length) {L : List HP} {p q : Option Addr} {n c m cp : Nat} (hb : SlC L p 1 n c (b.map u8c)) (hw : SlC L q 1 m cp (ws.map i64c)) :
    Tr Tryd.prog 77 [.slice p n c, .slice q m cp].toArray L (fun v L' => ∃ s, v = .tuple #[s, .int .i64 0] ∧ L' = vec 129 1 ((unpackF b ws).map u64c) s :: L) := by
  have hlen : ws.length = m := by simpa using hw.len
  have hlenb : b.length = n := by simpa using hb.len
  refine tr_enter Tryd.func77 rfl Tryd.ntmps77 rfl fun w0 => ?_
  repeat' (first
    | refine swl_op ?_
    | (refine s1_move ?_; refine sc_r (R_move (by rfl)) (by rfl) ?_)
    | (refine s1_assign ?_; refine sc_r (R_assign (by rfl)) (by rfl) ?_)
    | (refine s1_call ?_; refine sc_r (R_len (by rfl)) (by rfl) ?_)
    | refine swl_nil ?_
    | refine sx_next ?_
    | refine sw_seq ?_
    | refine sw_region ?_
    | refine sw_block ?_
    | fail)
  refine sw_loop (γ := Nat) (fun g => m - g) (fun g => [(0, .slice p n c), (1, .slice q m cp), (15, .slice q m cp), (16, .int .i64 m), (17, .int .i64 g), (6, .int .i64 (ws.take g).sum)]) (fun _ => L) (fun g => g ≤ m) 0 (by omega)
    (subE.cons rfl (subE.cons rfl (subE.cons rfl (subE.cons rfl (subE.cons rfl (subE.cons rfl subE.nil)))))) (by (repeat (first | exact Ent.refl _ | exact Ent.nil | (apply Ent.pick; focus ((repeat (first | exact Rem.here | apply Rem.there)); done)) | apply Ent.drop))) ?_
  intro g hg
  have hsz := sum_bd (ws.take g) (fun x hx => hok x (List.mem_of_mem_take hx))
  rw [List.length_take] at hsz
  by_cases hlt : g < m
  · obtain ⟨b1, o1, rfl⟩ := hw.ptr (by omega)
    have hl1 : g < ws.length := by omega
    have he1 := i64_get hl1
    have hts := List.take_succ_eq_append_getElem hl1
    have hx := hok ws[g] (List.getElem_mem hl1)
    generalize ws[g] = x at *
    have hx' : (ws.take (g + 1)).sum = (ws.take g).sum + x := by rw [hts]; simp
    repeat' (first
    | refine swl_op ?_
    | (refine s1_move ?_; refine sc_r (R_move (by rfl)) (by rfl) ?_)
    | (refine s1_load ?_; refine sc_r (L_load_el1 (by rfl) (by infer_instance) (by omega) (by first | assumption | rfl)) (by rfl) ?_)
    | (refine s1_assign ?_; refine sc_r (R_assign (by rfl)) (by rfl) ?_)
    | (refine s1_bin ?_; first | refine sc_r (R_lss (by rfl) (by rfl)) (by rfl) ?_ | refine sc_r (R_add64 (by rfl) (by rfl) (by omega)) (by rfl) ?_)
    | (refine s1_call ?_; (refine sc_c (by rfl) (C_call (by rfl) (by infer_instance) (by rfl) (by rfl) (pack_isWidth' x hx)) (by rfl) ?_; rintro _ _ ⟨rfl, rfl⟩))
    | (refine s1_indexAddr ?_; refine sc_r (R_indexAddr (by rfl) (by rfl) (by omega)) (by rfl) ?_)
    | (refine s1_any ?_; refine sc_r (R_not (by rfl)) (by rfl) ?_)
    | refine swl_nil ?_
    | refine sx_next ?_
    | refine sw_seq ?_
    | refine sw_region ?_
    | refine sw_block ?_
    | refine sx_block_normal ?_
    | refine sw_cond_false (by rfl) ?_
    | refine sw_cond_pos (by rfl) (by first | assumption | omega) ?_
    | refine sw_skip ?_
    | fail)
    refine sx_back (g + 1) (by omega) (by omega) ?_ (by (repeat (first | exact Ent.refl _ | exact Ent.nil | (apply Ent.pick; focus ((repeat (first | exact Rem.here | apply Rem.there)); done)) | apply Ent.drop)))
    rw [hx']
    exact (subE.cons rfl (subE.cons rfl (subE.cons rfl (subE.cons rfl (subE.cons rfl (subE.cons rfl subE.nil))))))
  · rw [List.take_of_length_le (by omega)] at hsz ⊢
    repeat' (first
    | refine swl_op ?_
    | (refine s1_move ?_; refine sc_r (R_move (by rfl)) (by rfl) ?_)
    | (refine s1_assign ?_; refine sc_r (R_assign (by rfl)) (by rfl) ?_)
    | (refine s1_bin ?_; refine sc_r (R_lss (by rfl) (by rfl)) (by rfl) ?_)
    | (refine s1_call ?_; refine sc_r (R_len (by rfl)) (by rfl) ?_)
    | (refine s1_any ?_; (refine sc_w (by rfl) (W_makeSlice (n' := 0) (c' := m) (zc := u64c 0) (by rfl) (by rfl) (by rfl) (by rfl) (by rfl) (by omega) (by omega)) (by rfl) ?_; rintro _ _ ⟨b0, rfl, hok0, rfl⟩))
    | refine swl_nil ?_
    | refine sx_next ?_
    | refine sw_seq ?_
    | refine sw_region ?_
    | refine sw_block ?_
    | refine sx_past_exit ?_
    | refine sx_block_here ?_
    | refine sw_cond_neg (by rfl) (by first | assumption | omega) ?_
    | refine sw_exit ?_
    | refine sw_skip ?_
    | fail)
    refine sw_loop (γ := Nat × Value) (fun g => m - g.1) (fun g => [(0, .slice p n c), (1, .slice q m cp), (9, g.2), (10, .int .i64 (ws.take g.1).sum), (35, .slice q m cp), (36, .int .i64 m), (37, .int .i64 g.1)]) (fun g => vec 129 1 ((unpackF b (ws.take g.1)).map u64c) g.2 :: L) (fun g => g.1 ≤ m) (0, .slice (some ⟨b0, 0, none⟩) 0 m) (by simp)
      (subE.cons rfl (subE.cons rfl (subE.cons rfl (subE.cons rfl (subE.cons rfl (subE.cons rfl (subE.cons rfl subE.nil))))))) (by exact Ent.refl _) ?_
    rintro ⟨g, s⟩ hg
    dsimp only at hg ⊢
    by_cases hlt : g < m
    · obtain ⟨b1, o1, rfl⟩ := hw.ptr (by omega)
      have hl1 : g < ws.length := by omega
      have he1 := i64_get hl1
      have hts := List.take_succ_eq_append_getElem hl1
      have hx := hok ws[g] (List.getElem_mem hl1)
      have hsg := sum_bd (ws.take g) (fun x hx => hok x (List.mem_of_mem_take hx))
      have hle := sum_take_le ws hok (g + 1)
      have hsn := unpackF_snoc (ws.take g) b ws[g] (fun x hx => by have := hok x (List.mem_of_mem_take hx); omega)
      rw [← hts] at hsn
      rw [List.length_take] at hsg
      generalize ws[g] = x at *
      have hx' : (ws.take (g + 1)).sum = (ws.take g).sum + x := by rw [hts]; simp
      have hul : ((unpackF b (ws.take g)).map u64c).length ≤ 1000 := by simp [unpackF_len]; omega
      generalize (ws.take g).sum = at0 at *
      generalize unpackF b (ws.take g) = U at *
      repeat' (first
    | refine swl_op ?_
    | (refine s1_move ?_; refine sc_r (R_move (by rfl)) (by rfl) ?_)
    | (refine s1_load ?_; refine sc_r (L_load_el1 (by rfl) (by infer_instance) (by omega) (by first | assumption | rfl)) (by rfl) ?_)
    | (refine s1_assign ?_; refine sc_r (R_assign (by rfl)) (by rfl) ?_)
    | (refine s1_bin ?_; refine sc_r (R_lss (by rfl) (by rfl)) (by rfl) ?_)
    | (refine s1_indexAddr ?_; refine sc_r (R_indexAddr (by rfl) (by rfl) (by omega)) (by rfl) ?_)
    | refine swl_nil ?_
    | refine sx_next ?_
    | refine sw_seq ?_
    | refine sw_region ?_
    | refine sw_block ?_
    | refine sw_cond_pos (by rfl) (by first | assumption | omega) ?_
    | refine sw_skip ?_
    | fail)
      refine sw_loop (γ := Nat × Int) (fun i => x.toNat - i.1) (fun i => [(0, .slice p n c), (1, .slice (some ⟨b1, o1, none⟩) m cp), (9, s), (10, .int .i64 at0), (35, .slice (some ⟨b1, o1, none⟩) m cp), (36, .int .i64 m), (37, .int .i64 g), (12, .int .i64 x), (13, .int .u64 i.2), (41, .int .i64 x), (42, .int .i64 i.1)]) (fun _ => vec 129 1 (U.map u64c) s :: L) (fun i => i.1 ≤ x.toNat ∧ i.2 = getN 0 (((b.drop at0.toNat).take x.toNat).take i.1)) (0, 0) ⟨by simp, by simp [getN]⟩
        (subE.cons rfl (subE.cons rfl (subE.cons rfl (subE.cons rfl (subE.cons rfl (subE.cons rfl (subE.cons rfl (subE.cons rfl (subE.cons rfl (subE.cons rfl (subE.cons rfl subE.nil))))))))))) (by (repeat (first | exact Ent.refl _ | exact Ent.nil | (apply Ent.pick; focus ((repeat (first | exact Rem.here | apply Rem.there)); done)) | apply Ent.drop))) ?_
      rintro ⟨i, w⟩ ⟨hi, hwi⟩
      dsimp only at hi hwi ⊢
      by_cases hlt2 : i < x.toNat
      · obtain ⟨b2, o2, rfl⟩ := hb.ptr (by omega)
        have hl2 : at0.toNat + i < b.length := by omega
        have he2 : (b.map u8c).getD ((at0 + (i : Int)).toNat) #[] = #[Value.int .u8 b[at0.toNat + i]] := by
          rw [show (at0 + (i : Int)).toNat = at0.toNat + i by omega]; exact u8_get hl2
        have hgs := getN_succ (v := 0) (l := (b.drop at0.toNat).take x.toNat) (j := i) (by simp; omega)
        rw [List.getElem_take, List.getElem_drop] at hgs
        generalize b[at0.toNat + i] = z at *
        repeat' (first
    | refine swl_op ?_
    | (refine s1_move ?_; refine sc_r (R_move (by rfl)) (by rfl) ?_)
    | (refine s1_load ?_; refine sc_r (L_load_el1 (by rfl) (by infer_instance) (by omega) (by first | assumption | rfl)) (by rfl) ?_)
    | (refine s1_assign ?_; refine sc_r (R_assign (by rfl)) (by rfl) ?_)
    | (refine s1_bin ?_; first | refine sc_r (R_lss (by rfl) (by rfl)) (by rfl) ?_ | refine sc_r (R_add64 (by rfl) (by rfl) (by omega)) (by rfl) ?_ | refine sc_r (R_shl (by rfl) (by rfl) (by omega)) (by rfl) ?_ | refine sc_r (R_or (by rfl) (by rfl)) (by rfl) ?_)
    | (refine s1_indexAddr ?_; refine sc_r (R_indexAddr (by rfl) (by rfl) (by omega)) (by rfl) ?_)
    | (refine s1_conv ?_; refine sc_r (R_conv (by rfl)) (by rfl) ?_)
    | refine swl_nil ?_
    | refine sx_next ?_
    | refine sw_seq ?_
    | refine sw_region ?_
    | refine sw_block ?_
    | refine sx_block_normal ?_
    | refine sw_cond_pos (by rfl) (by first | assumption | omega) ?_
    | refine sw_skip ?_
    | fail)
        refine sx_back (i + 1, _) (by simp only; omega) ⟨by simp only; omega, ?_⟩ (subE.cons rfl (subE.cons rfl (subE.cons rfl (subE.cons rfl (subE.cons rfl (subE.cons rfl (subE.cons rfl (subE.cons rfl (subE.cons rfl (subE.cons rfl (subE.cons rfl subE.nil))))))))))) (by (repeat (first | exact Ent.refl _ | exact Ent.nil | (apply Ent.pick; focus ((repeat (first | exact Rem.here | apply Rem.there)); done)) | apply Ent.drop)))
        rw [hgs, ← hwi]; rfl
      · rw [List.take_of_length_le (i := i) (by simp; omega)] at hwi
        repeat' (first
    | refine swl_op ?_
    | (refine s1_move ?_; refine sc_r (R_move (by rfl)) (by rfl) ?_)
    | (refine s1_assign ?_; refine sc_r (R_assign (by rfl)) (by rfl) ?_)
    | (refine s1_bin ?_; first | refine sc_r (R_lss (by rfl) (by rfl)) (by rfl) ?_ | refine sc_r (R_add64 (by rfl) (by rfl) (by omega)) (by rfl) ?_)
    | (refine s1_call ?_; (refine sc_w (by rfl) (W_append1 (by rfl) (by rfl) (by focus ((repeat (first | exact Rem.here | apply Rem.there)); done)) (by infer_instance) (by rfl) (by rfl) (by first | assumption | omega)) (by rfl) ?_; rintro _ _ rfl))
    | (refine s1_any ?_; (refine sc_w (by rfl) (W_buildSlice1s (by rfl) (by rfl)) (by rfl) ?_; rintro _ _ ⟨_, rfl, rfl⟩))
    | refine swl_nil ?_
    | refine sx_next ?_
    | refine sw_seq ?_
    | refine sw_region ?_
    | refine sx_past_exit ?_
    | refine sx_block_normal ?_
    | refine sx_block_here ?_
    | refine sw_cond_neg (by rfl) (by first | assumption | omega) ?_
    | refine sw_exit ?_
    | fail)
        rename_i vv
        refine sx_back (g + 1, vv) (by simp only; omega) (by simp only; omega) ?_ ?_
        · rw [hx']; exact (subE.cons rfl (subE.cons rfl (subE.cons rfl (subE.cons rfl (subE.cons rfl (subE.cons rfl (subE.cons rfl subE.nil)))))))
        · dsimp only
          rw [hsn, List.map_append, ← hwi]
          (repeat (first | exact Ent.refl _ | exact Ent.nil | (apply Ent.pick; focus ((repeat (first | exact Rem.here | apply Rem.there)); done)) | apply Ent.drop))
    · rw [List.take_of_length_le (by omega)]
      repeat' (first
    | refine swl_op ?_
    | (refine s1_move ?_; refine sc_r (R_move (by rfl)) (by rfl) ?_)
    | (refine s1_assign ?_; refine sc_r (R_assign (by rfl)) (by rfl) ?_)
    | (refine s1_bin ?_; refine sc_r (R_lss (by rfl) (by rfl)) (by rfl) ?_)
    | refine swl_nil ?_
    | refine sx_next ?_
    | refine sw_seq ?_
    | refine sw_region ?_
    | refine sx_past_exit ?_
    | refine sx_block_here ?_
    | refine sw_cond_neg (by rfl) (by first | assumption | omega) ?_
    | refine sw_ret ?_
    | refine sw_exit ?_
    | fail)
      exact sx_ret_of (res2 rfl (ResOne.tmp rfl) (ResOne.tmp rfl)) _ ⟨_, rfl, rfl⟩ (by (repeat (first | exact Ent.refl _ | exact Ent.nil | (apply Ent.pick; focus ((repeat (first | exact Rem.here | apply Rem.there)); done)) | apply Ent.drop)))
end Go.Proofs.YtjdnflhejfcgdaaDoor

/-
  Superblocks and labels.
-/
namespace Go.Proofs.YtjdnflhejfcgdaaDoor
open Go Go.SL Go.Proofs

theorem label_num (w v : Int) (u : Int) (hu : IntKind.u64.wrap v = u) {L : List HP} : Tr Tryd.prog 85 [.int .i64 w, .int .i64 v].toArray L (fun r L' => r = .agg (Num.cells ⟨w, u⟩) ∧ L = L') := by
  refine tr_enter Tryd.func85 rfl Tryd.ntmps85 rfl fun w0 => ?_
  repeat' (first
    | refine swl_op ?_
    | (refine s1_move ?_; refine sc_r (R_move (by rfl)) (by rfl) ?_)
    | (refine s1_store ?_; (refine sc_w (by rfl) (W_storeAll (by rfl) (by rfl) (by infer_instance) (by rfl) (by rfl) (by rfl)) (by rfl) ?_; rintro _ _ ⟨rfl, rfl⟩))
    | (refine s1_alloc ?_; (refine sc_w (by rfl) W_allocA (by rfl) ?_; rintro _ _ ⟨_, rfl, rfl⟩))
    | (refine s1_conv ?_; refine sc_r (R_convk (by rfl) hu) (by rfl) ?_)
    | (refine s1_any ?_; refine sc_r (R_build (by rfl) (by rfl)) (by rfl) ?_)
    | refine swl_nil ?_
    | refine sx_next ?_
    | refine sw_seq ?_
    | refine sw_region ?_
    | refine sw_ret ?_
    | fail)
  exact sx_ret_of (res1 rfl (ResOne.cellA (by rfl) (by infer_instance) (by rfl))) L ⟨rfl, rfl⟩ (by (repeat (first | exact Ent.refl _ | exact Ent.nil | (apply Ent.pick; focus ((repeat (first | exact Rem.here | apply Rem.there)); done)) | apply Ent.drop)))

theorem label_seal (l : List Num) (hok : ∀ x ∈ l, x.ok) (h1000 : l.length ≤ 1000) (h0 : 0 < (packF l).length) (h124 : (packF l).length ≤ 124) {L : List HP} {p : Option Addr} {m cp : Nat} {els : List (Array Value)} [HalvesC L] (hl : SlC L p 2 m cp els) (he : els = l.map Num.cells) :
    Tr Tryd.prog 84 [.slice p m cp].toArray L (fun v L' => ∃ s, v = .tuple #[s, .int .i64 0] ∧ L' = vec 5 1 ((sealF (packF l)).map u8c) s :: L) := by
  subst he
  have hf1 : Fact' (((packF l).map u8c).length = (packF l).length) := ⟨by simp⟩
  refine tr_enter Tryd.func84 rfl Tryd.ntmps84 rfl fun w0 => ?_
  repeat' (first
    | refine swl_op ?_
    | (refine s1_move ?_; refine sc_r (R_move (by rfl)) (by rfl) ?_)
    | (refine s1_assign ?_; refine sc_r (R_assign (by rfl)) (by rfl) ?_)
    | (refine s1_bin ?_; refine sc_r (R_neq (by rfl) (by rfl)) (by rfl) ?_)
    | (refine s1_call ?_; first | (refine sc_c (by rfl) (C_call (by rfl) (by infer_instance) (by rfl) (by rfl) (pack_Pack l hok h1000 hl)) (by rfl) ?_; rintro _ _ ⟨vc, rfl, rfl⟩; refine swl_know (fun h H => vec_fact H) ?_; rintro ⟨pc, cc, rfl, hf⟩; rw [List.length_map] at *; obtain ⟨b1, o1, rfl⟩ := hf.ptr (by omega)) | (refine sc_c (by rfl) (C_call (by rfl) (by infer_instance) (by rfl) (by rfl) (crc_Seal (packF l) h124 (by infer_instance))) (by rfl) ?_; rintro _ _ ⟨vc2, rfl, rfl⟩))
    | (refine s1_any ?_; refine sc_r (R_extract (by rfl) (by rfl)) (by rfl) ?_)
    | refine swl_nil ?_
    | refine sx_next ?_
    | refine sw_seq ?_
    | refine sw_region ?_
    | refine sw_cond_false (by rfl) ?_
    | refine sw_ret ?_
    | refine sw_skip ?_
    | fail)
  exact sx_ret_of (res2 rfl (ResOne.tmp rfl) (ResOne.tmp rfl)) _ ⟨_, rfl, rfl⟩ (by (repeat (first | exact Ent.refl _ | exact Ent.nil | (apply Ent.pick; focus ((repeat (first | exact Rem.here | apply Rem.there)); done)) | apply Ent.drop)))

theorem label_create_no (f : Value) {L : List HP} : Tr Tryd.prog 82 [.bool false, f].toArray L (fun v L' => v = .tuple #[.slice none 0 0, .int .i64 1] ∧ L = L') := by
  refine tr_enter Tryd.func82 rfl Tryd.ntmps82 rfl fun w0 => ?_
  repeat' (first
    | refine swl_op ?_
    | (refine s1_move ?_; refine sc_r (R_move (by rfl)) (by rfl) ?_)
    | (refine s1_assign ?_; refine sc_r (R_assign (by rfl)) (by rfl) ?_)
    | (refine s1_any ?_; refine sc_r (R_not (by rfl)) (by rfl) ?_)
    | refine swl_nil ?_
    | refine sx_next ?_
    | refine sw_seq ?_
    | refine sw_region ?_
    | refine sx_past_ret ?_
    | refine sw_cond_true (by rfl) ?_
    | refine sw_ret ?_
    | fail)
  exact sx_ret_of (res2 rfl (ResOne.tmp rfl) (ResOne.tmp rfl)) _ ⟨rfl, rfl⟩ (by (repeat (first | exact Ent.refl _ | exact Ent.nil | (apply Ent.pick; focus ((repeat (first | exact Rem.here | apply Rem.there)); done)) | apply Ent.drop)))
theorem label_create_yes {fid : FuncId} {fi ca : Array Value} (hc : CallC Tryd.prog fid) {L : List HP} {K : List (Array Value)} {args : List Value} (ha : fi.toList ++ [] ++ ca.toList = args) (h : Tr Tryd.prog fid args.toArray L (fun v L' => ∃ s, v = .tuple #[s, .int .i64 0] ∧ L' = vec 5 1 K s :: L)) :
    Tr Tryd.prog 82 [.bool true, .func (.func fid) fi ca].toArray L (fun v L' => ∃ s, v = .tuple #[s, .int .i64 0] ∧ L' = vec 5 1 K s :: L) := by
  refine tr_enter Tryd.func82 rfl Tryd.ntmps82 rfl fun w0 => ?_
  repeat' (first
    | refine swl_op ?_
    | (refine s1_move ?_; refine sc_r (R_move (by rfl)) (by rfl) ?_)
    | (refine s1_assign ?_; refine sc_r (R_assign (by rfl)) (by rfl) ?_)
    | (refine s1_call ?_; (refine sc_c (by rfl) (C_call (by rfl) hc (by rfl) ha h) (by rfl) ?_; rintro _ _ ⟨vc2, rfl, rfl⟩))
    | (refine s1_any ?_; first | refine sc_r (R_not (by rfl)) (by rfl) ?_ | refine sc_r (R_extract (by rfl) (by rfl)) (by rfl) ?_)
    | refine swl_nil ?_
    | refine sx_next ?_
    | refine sw_seq ?_
    | refine sw_region ?_
    | refine sw_cond_false (by rfl) ?_
    | refine sw_ret ?_
    | refine sw_skip ?_
    | fail)
  exact sx_ret_of (res2 rfl (ResOne.tmp rfl) (ResOne.tmp rfl)) _ ⟨_, rfl, rfl⟩ (by (repeat (first | exact Ent.refl _ | exact Ent.nil | (apply Ent.pick; focus ((repeat (first | exact Rem.here | apply Rem.there)); done)) | apply Ent.drop)))

def superN (g : Geo) : List Num := [⟨4, 1751218541⟩, ⟨2, g.disk⟩, ⟨2, g.lines⟩, ⟨1, g.vols⟩, ⟨2, g.segs⟩]
def superF (g : Geo) : List Int := sealF (packF (superN g))
theorem num_ok {w v : Int} (h1 : 1 ≤ w ∧ w ≤ 8) (h : 0 ≤ v ∧ v < 2 ^ (8 * w.toNat)) : Num.ok ⟨w, v⟩ := by
  refine ⟨h1.1, h1.2, fun h8 => ?_⟩
  unfold bShr
  have : min (8 * w).toNat IntKind.u64.bits = 8 * w.toNat := by
    show min (8 * w).toNat 64 = _
    omega
  dsimp only at h8 ⊢
  rw [this]
  rw [Int.fdiv_eq_ediv_of_nonneg _ (Int.pow_nonneg (by omega))]
  exact Int.ediv_eq_zero_of_lt h.1 h.2
theorem superN_ok {g : Geo} (h : mayG g = true) : ∀ x ∈ superN g, x.ok := by
  have h := mayG_is h
  intro x hx
  simp only [superN, List.mem_cons, List.not_mem_nil, or_false] at hx
  rcases hx with rfl | rfl | rfl | rfl | rfl
  · exact num_ok (by omega) (by decide)
  · exact num_ok (by omega) ⟨by omega, by show g.disk < 65536; omega⟩
  · exact num_ok (by omega) ⟨by omega, by show g.lines < 65536; omega⟩
  · exact num_ok (by omega) ⟨by omega, by show g.vols < 256; omega⟩
  · exact num_ok (by omega) ⟨by omega, by show g.segs < 65536; omega⟩
theorem superN_len {g : Geo} (h : mayG g = true) : (packF (superN g)).length = 11 := by
  have := (packF_len (superN_ok h)).1
  simp [superN, sizeN] at this
  simp [superN]; omega

set_option maxHeartbeats 1000000 in
theorem label_Super1 (g : Geo) (hm : mayG g = true) {L : List HP} {b : Nat} {T : TypeId} [HalvesC L] (hb : ReadC L b (.cells g.cells T)) :
    Tr Tryd.prog 83 [.pointer (some ⟨b, 0, none⟩)].toArray L (fun v L' => ∃ s, v = .tuple #[s, .int .i64 0] ∧ L' = vec 5 1 ((superF g).map u8c) s :: L) := by
  refine tr_enter Tryd.func83 rfl Tryd.ntmps83 rfl fun w0 => ?_
  have hg := mayG_is hm
  have hok := superN_ok hm
  have hl := superN_len hm
  unfold Geo.cells at *
  repeat' (first
    | refine swl_op ?_
    | (refine s1_load ?_; refine sc_r (L_load' (by rfl) (by infer_instance) (by rfl)) (by rfl) ?_)
    | (refine s1_fieldAddr ?_; refine sc_r (R_fieldAddr (by rfl)) (by rfl) ?_)
    | (refine s1_assign ?_; refine sc_r (R_assign (by rfl)) (by rfl) ?_)
    | (refine s1_call ?_; first | (refine sc_c (by rfl) (C_call (by rfl) (by infer_instance) (by rfl) (by rfl) (label_num _ _ _ (wrap_u64_of (by omega)))) (by rfl) ?_; rintro _ _ ⟨rfl, rfl⟩) | (refine sc_c (by rfl) (C_call (by rfl) (by infer_instance) (by rfl) (by rfl) (label_seal (superN g) hok (by simp [superN]) (by omega) (by omega) (by infer_instance) (by rfl))) (by rfl) ?_; rintro _ _ ⟨vc2, rfl, rfl⟩))
    | (refine s1_any ?_; first | (refine sc_w (by rfl) (W_buildSliceV (by rfl) (by rfl) (by rfl) (by rfl) (by rfl) (by rfl) (by rfl)) (by rfl) ?_; rintro _ _ ⟨_, rfl, rfl, _, _⟩) | refine sc_r (R_extract (by rfl) (by rfl)) (by rfl) ?_)
    | refine swl_nil ?_
    | refine sx_next ?_
    | refine sw_seq ?_
    | refine sw_region ?_
    | refine sw_ret ?_
    | refine swh_lt (by rfl) (fun _ _ => wanted_none) ?_
    | refine swh_hv (by rfl) (fun _ _ => wanted_none) ?_
    | refine swh_nil ?_
    | (apply And.intro; focus ((repeat (first | exact Ent.refl _ | exact Ent.nil | (apply Ent.pick; focus ((repeat (first | exact Rem.here | apply Rem.there)); done)) | apply Ent.drop)); done))
    | (refine sw_draw [(1, true), (2, true), (4, true), (5, true), (7, true), (8, true), (10, true), (11, true), (0, false), (3, false), (6, false), (9, false), (12, false), (13, false), (14, false), (15, true), (16, true), (17, true), (18, true)] follows ?_ ?_ ?_; (focus rfl); (focus (decide +kernel)))
    | fail)
  exact sx_ret_of (res2 rfl (ResOne.tmp rfl) (ResOne.tmp rfl)) _ ⟨_, rfl, rfl⟩ (by (repeat (first | exact Ent.refl _ | exact Ent.nil | (apply Ent.pick; focus ((repeat (first | exact Rem.here | apply Rem.there)); done)) | apply Ent.drop)))

theorem label_Super (g : Geo) (hm : mayG g = true) {L : List HP} [HalvesC L] :
    Tr Tryd.prog 47 [.agg g.cells].toArray L (fun v L' => ∃ s, v = .tuple #[s, .int .i64 0] ∧ L' = vec 5 1 ((superF g).map u8c) s :: L) := by
  refine tr_enter Tryd.func47 rfl Tryd.ntmps47 rfl fun w0 => ?_
  repeat' (first
    | refine swl_op ?_
    | (refine s1_load ?_; refine sc_r (L_load_all (by rfl) (by infer_instance) (by rfl)) (by rfl) ?_)
    | (refine s1_assign ?_; refine sc_r (R_assign (by rfl)) (by rfl) ?_)
    | (refine s1_call ?_; first | (refine sc_c (by rfl) (C_call (by rfl) (by infer_instance) (by rfl) (by rfl) (addr_May' g _ hm)) (by rfl) ?_; rintro _ _ ⟨rfl, rfl⟩) | (refine sc_c (by rfl) (C_call (by rfl) (by infer_instance) (by rfl) (by rfl) (label_create_yes (by infer_instance) (by rfl) (label_Super1 g hm (by infer_instance)))) (by rfl) ?_; rintro _ _ ⟨vc2, rfl, rfl⟩))
    | (refine s1_box ?_; (refine sc_w (by rfl) (W_boxA (by rfl)) (by rfl) ?_; rintro _ _ ⟨_, rfl, rfl⟩))
    | (refine s1_any ?_; first | refine sc_r (R_extract (by rfl) (by rfl)) (by rfl) ?_ | refine sc_r (R_makeFunc (by rfl) (by rfl)) (by rfl) ?_)
    | refine swl_nil ?_
    | refine sx_next ?_
    | refine sw_seq ?_
    | refine sw_region ?_
    | refine sw_ret ?_
    | fail)
  exact sx_ret_of (res2 rfl (ResOne.tmp rfl) (ResOne.tmp rfl)) _ ⟨_, rfl, rfl⟩ (by (repeat (first | exact Ent.refl _ | exact Ent.nil | (apply Ent.pick; focus ((repeat (first | exact Rem.here | apply Rem.there)); done)) | apply Ent.drop)))

def labMay (vol gen : Int) : Bool := decide (0 ≤ vol ∧ vol < 8 ∧ 0 ≤ gen ∧ gen ≤ 4294967295)
theorem label_may (vol gen : Int) {L : List HP} : Tr Tryd.prog 90 [.int .i64 vol, .int .i64 gen].toArray L (fun v L' => v = .bool (labMay vol gen) ∧ L = L') := by
  refine tr_enter Tryd.func90 rfl Tryd.ntmps90 rfl fun w0 => ?_
  repeat' (first
    | refine swl_op ?_
    | (refine s1_move ?_; refine sc_r (R_move (by rfl)) (by rfl) ?_)
    | (refine s1_assign ?_; refine sc_r (R_assign (by rfl)) (by rfl) ?_)
    | (refine s1_pick ?_; first | refine sc_r (R_pick_t (by rfl) (by rfl)) (by rfl) ?_ | refine sc_r (R_pick_f (by rfl) (by rfl)) (by rfl) ?_)
    | (refine s1_bin ?_; first | refine sc_r (R_lss (by rfl) (by rfl)) (by rfl) ?_ | refine sc_r (R_leq (by rfl) (by rfl)) (by rfl) ?_ | refine sc_r (R_geq (by rfl) (by rfl)) (by rfl) ?_)
    | refine swl_nil ?_
    | refine sx_next ?_
    | refine sw_seq ?_
    | refine sw_region ?_
    | refine swl_g_on (by rfl) (by rfl) ?_
    | refine swl_g_off (by rfl) (by rfl) (by rfl) (by rfl) ?_
    | refine swl_g_dec (by rfl) (by rfl) (fun hp => ?_) (fun hp => ?_)
    | refine sw_ret ?_
    | fail)
  all_goals refine sx_ret_of (res1 rfl (ResOne.tmp rfl)) L ⟨?_, rfl⟩ (by (repeat (first | exact Ent.refl _ | exact Ent.nil | (apply Ent.pick; focus ((repeat (first | exact Rem.here | apply Rem.there)); done)) | apply Ent.drop)))
  all_goals (refine congrArg Value.bool ?_; simp only [labMay]; grind)
theorem label_may' (vol gen : Int) (b : Bool) (h : labMay vol gen = b) {L : List HP} : Tr Tryd.prog 90 [.int .i64 vol, .int .i64 gen].toArray L (fun v L' => v = .bool b ∧ L = L') := h ▸ label_may vol gen
def labelN (vol gen : Int) : List Num := [⟨4, 1752592236⟩, ⟨1, vol⟩, ⟨4, gen⟩]
def labelF (vol gen : Int) : List Int := sealF (packF (labelN vol gen))
theorem labelN_ok {vol gen : Int} (h : labMay vol gen = true) : ∀ x ∈ labelN vol gen, x.ok := by
  simp only [labMay, decide_eq_true_eq] at h
  intro x hx
  simp only [labelN, List.mem_cons, List.not_mem_nil, or_false] at hx
  rcases hx with rfl | rfl | rfl
  · exact num_ok (by omega) (by decide)
  · exact num_ok (by omega) ⟨by omega, by show vol < 256; omega⟩
  · exact num_ok (by omega) ⟨by omega, by show gen < 4294967296; omega⟩
theorem labelN_len {vol gen : Int} (h : labMay vol gen = true) : (packF (labelN vol gen)).length = 9 := by
  have := (packF_len (labelN_ok h)).1
  simp [labelN, sizeN] at this
  simp [labelN]; omega
set_option maxHeartbeats 1000000 in
theorem label_Label1 (vol gen : Int) (hm : labMay vol gen = true) {L : List HP} {b c : Nat} {T T' : TypeId} [HalvesC L] (hb : ReadC L b (.cells #[.int .i64 vol] T)) (hc : ReadC L c (.cells #[.int .i64 gen] T')) :
    Tr Tryd.prog 91 [.pointer (some ⟨b, 0, none⟩), .pointer (some ⟨c, 0, none⟩)].toArray L (fun v L' => ∃ s, v = .tuple #[s, .int .i64 0] ∧ L' = vec 5 1 ((labelF vol gen).map u8c) s :: L) := by
  refine tr_enter Tryd.func91 rfl Tryd.ntmps91 rfl fun w0 => ?_
  have hok := labelN_ok hm
  have hl := labelN_len hm
  simp only [labMay, decide_eq_true_eq] at hm
  repeat' (first
    | refine swl_op ?_
    | (refine s1_load ?_; refine sc_r (L_load' (by rfl) (by infer_instance) (by rfl)) (by rfl) ?_)
    | (refine s1_assign ?_; refine sc_r (R_assign (by rfl)) (by rfl) ?_)
    | (refine s1_call ?_; first | (refine sc_c (by rfl) (C_call (by rfl) (by infer_instance) (by rfl) (by rfl) (label_num _ _ _ (wrap_u64_of (by omega)))) (by rfl) ?_; rintro _ _ ⟨rfl, rfl⟩) | (refine sc_c (by rfl) (C_call (by rfl) (by infer_instance) (by rfl) (by rfl) (label_seal (labelN vol gen) hok (by simp [labelN]) (by omega) (by omega) (by infer_instance) (by rfl))) (by rfl) ?_; rintro _ _ ⟨vc2, rfl, rfl⟩))
    | (refine s1_any ?_; first | (refine sc_w (by rfl) (W_buildSliceV (by rfl) (by rfl) (by rfl) (by rfl) (by rfl) (by rfl) (by rfl)) (by rfl) ?_; rintro _ _ ⟨_, rfl, rfl, _, _⟩) | refine sc_r (R_extract (by rfl) (by rfl)) (by rfl) ?_)
    | refine swl_nil ?_
    | refine sx_next ?_
    | refine sw_seq ?_
    | refine sw_region ?_
    | refine sw_ret ?_
    | refine swh_lt (by rfl) (fun _ _ => wanted_none) ?_
    | refine swh_hv (by rfl) (fun _ _ => wanted_none) ?_
    | refine swh_nil ?_
    | (apply And.intro; focus ((repeat (first | exact Ent.refl _ | exact Ent.nil | (apply Ent.pick; focus ((repeat (first | exact Rem.here | apply Rem.there)); done)) | apply Ent.drop)); done))
    | (refine sw_draw [(1, true), (3, true), (0, false), (2, false), (4, false), (5, false), (6, false), (7, true), (8, true), (9, true), (10, true)] follows ?_ ?_ ?_; (focus rfl); (focus (decide +kernel)))
    | fail)
  exact sx_ret_of (res2 rfl (ResOne.tmp rfl) (ResOne.tmp rfl)) _ ⟨_, rfl, rfl⟩ (by (repeat (first | exact Ent.refl _ | exact Ent.nil | (apply Ent.pick; focus ((repeat (first | exact Rem.here | apply Rem.there)); done)) | apply Ent.drop)))
theorem label_Label (vol gen : Int) (hm : labMay vol gen = true) {L : List HP} [HalvesC L] :
    Tr Tryd.prog 53 [.int .i64 vol, .int .i64 gen].toArray L (fun v L' => ∃ s, v = .tuple #[s, .int .i64 0] ∧ L' = vec 5 1 ((labelF vol gen).map u8c) s :: L) := by
  refine tr_enter Tryd.func53 rfl Tryd.ntmps53 rfl fun w0 => ?_
  repeat' (first
    | refine swl_op ?_
    | (refine s1_load ?_; refine sc_r (L_load' (by rfl) (by infer_instance) (by rfl)) (by rfl) ?_)
    | (refine s1_assign ?_; refine sc_r (R_assign (by rfl)) (by rfl) ?_)
    | (refine s1_call ?_; first | (refine sc_c (by rfl) (C_call (by rfl) (by infer_instance) (by rfl) (by rfl) (label_may' vol gen _ hm)) (by rfl) ?_; rintro _ _ ⟨rfl, rfl⟩) | (refine sc_c (by rfl) (C_call (by rfl) (by infer_instance) (by rfl) (by rfl) (label_create_yes (by infer_instance) (by rfl) (label_Label1 vol gen hm (by infer_instance) (by infer_instance)))) (by rfl) ?_; rintro _ _ ⟨vc2, rfl, rfl⟩))
    | (refine s1_box ?_; (refine sc_w (by rfl) (W_box1 (by rfl) (by rfl)) (by rfl) ?_; rintro _ _ ⟨_, rfl, rfl⟩))
    | (refine s1_any ?_; first | refine sc_r (R_extract (by rfl) (by rfl)) (by rfl) ?_ | refine sc_r (R_makeFunc (by rfl) (by rfl)) (by rfl) ?_)
    | refine swl_nil ?_
    | refine sx_next ?_
    | refine sw_seq ?_
    | refine sw_region ?_
    | refine sw_ret ?_
    | fail)
  exact sx_ret_of (res2 rfl (ResOne.tmp rfl) (ResOne.tmp rfl)) _ ⟨_, rfl, rfl⟩ (by (repeat (first | exact Ent.refl _ | exact Ent.nil | (apply Ent.pick; focus ((repeat (first | exact Rem.here | apply Rem.there)); done)) | apply Ent.drop)))
theorem label_Label_no (vol gen : Int) (hm : labMay vol gen = false) {L : List HP} [HalvesC L] :
    Tr Tryd.prog 53 [.int .i64 vol, .int .i64 gen].toArray L (fun v L' => v = .tuple #[.slice none 0 0, .int .i64 1] ∧ L = L') := by
  refine tr_enter Tryd.func53 rfl Tryd.ntmps53 rfl fun w0 => ?_
  repeat' (first
    | refine swl_op ?_
    | (refine s1_load ?_; refine sc_r (L_load' (by rfl) (by infer_instance) (by rfl)) (by rfl) ?_)
    | (refine s1_assign ?_; refine sc_r (R_assign (by rfl)) (by rfl) ?_)
    | (refine s1_call ?_; first | (refine sc_c (by rfl) (C_call (by rfl) (by infer_instance) (by rfl) (by rfl) (label_may' vol gen _ hm)) (by rfl) ?_; rintro _ _ ⟨rfl, rfl⟩) | (refine sc_c (by rfl) (C_call (by rfl) (by infer_instance) (by rfl) (by rfl) (label_create_no _)) (by rfl) ?_; rintro _ _ ⟨rfl, rfl⟩))
    | (refine s1_box ?_; (refine sc_w (by rfl) (W_box1 (by rfl) (by rfl)) (by rfl) ?_; rintro _ _ ⟨_, rfl, rfl⟩))
    | (refine s1_any ?_; first | refine sc_r (R_extract (by rfl) (by rfl)) (by rfl) ?_ | refine sc_r (R_makeFunc (by rfl) (by rfl)) (by rfl) ?_)
    | refine swl_nil ?_
    | refine sx_next ?_
    | refine sw_seq ?_
    | refine sw_region ?_
    | refine sw_ret ?_
    | fail)
  exact sx_ret_of (res2 rfl (ResOne.tmp rfl) (ResOne.tmp rfl)) _ ⟨rfl, rfl⟩ (by (repeat (first | exact Ent.refl _ | exact Ent.nil | (apply Ent.pick; focus ((repeat (first | exact Rem.here | apply Rem.there)); done)) | apply Ent.drop)))

def readF (b : List Int) (mark : Int) (ws : List Int) : List Int × Int :=
  if heldF b then (if getN 0 (b.take 4) = mark then (if clearF (b.take 124) (4 + ws.sum) then ((unpackF ((b.take 124).drop 4) ws).map IntKind.i64.wrap, 0) else ([], 3)) else ([], 3)) else ([], 5)
theorem crc_Held' (l : List Int) (t : Bool) (h : heldF l = t) {L : List HP} {p : Option Addr} {n c : Nat} [HalvesC L] (hl : SlC L p 1 n c (l.map u8c)) :
    Tr Tryd.prog 76 [.slice p n c].toArray L (fun v L' => v = .bool t ∧ L = L') := h ▸ crc_Held l hl
theorem pack_Clear' (l : List Int) (k : Int) (t : Bool) (h : clearF l k = t) {L : List HP} {p : Option Addr} {n c : Nat} (hl : SlC L p 1 n c (l.map u8c)) :
    Tr Tryd.prog 78 [.slice p n c, .int .i64 k].toArray L (fun v L' => v = .bool t ∧ L = L') := h ▸ pack_Clear l k hl
theorem pack_Unpack' (b ws : List Int) {els : List (Array Value)} (hok : ∀ x ∈ ws, 1 ≤ x ∧ x ≤ 8) (h1000 : ws.length ≤ 1000) (hroom : ws.sum ≤ b.length) {L : List HP} {p q : Option Addr} {n c m cp : Nat} (hb : SlC L p 1 n c (b.map u8c)) (hw : SlC L q 1 m cp els) (he : els = ws.map i64c) :
    Tr Tryd.prog 77 [.slice p n c, .slice q m cp].toArray L (fun v L' => ∃ s, v = .tuple #[s, .int .i64 0] ∧ L' = vec 129 1 ((unpackF b ws).map u64c) s :: L) := by
  subst he; exact pack_Unpack b ws hok h1000 hroom hb hw

theorem readF_len {b : List Int} {mark : Int} {ws : List Int} (h : (readF b mark ws).2 = 0) : (readF b mark ws).1.length = ws.length := by
  unfold readF at h ⊢
  by_cases h1 : heldF b = true <;> by_cases h2 : getN 0 (b.take 4) = mark <;> by_cases h3 : clearF (b.take 124) (4 + ws.sum) = true <;> simp_all [unpackF_len]
def readSuperF (b : List Int) : Geo × Int :=
  let r := readF b 1751218541 [2, 2, 1, 2]
  if r.2 = 0 then (let g : Geo := ⟨r.1.getD 0 0, r.1.getD 1 0, r.1.getD 2 0, r.1.getD 3 0⟩; if mayG g then (g, 0) else (⟨0, 0, 0, 0⟩, 3)) else (⟨0, 0, 0, 0⟩, r.2)
def readLabelF (b : List Int) : Int × Int × Int :=
  let r := readF b 1752592236 [1, 4]
  if r.2 = 0 then (if labMay (r.1.getD 0 0) (r.1.getD 1 0) then (r.1.getD 0 0, r.1.getD 1 0, 0) else (0, 0, 3)) else (0, 0, r.2)

theorem list4 {l : List Int} (h : l.length = 4) : ∃ a b c d, l = [a, b, c, d] := by
  match l, h with
  | [a, b, c, d], _ => exact ⟨a, b, c, d, rfl⟩
theorem list2 {l : List Int} (h : l.length = 2) : ∃ a b, l = [a, b] := by
  match l, h with
  | [a, b], _ => exact ⟨a, b, rfl⟩

end Go.Proofs.YtjdnflhejfcgdaaDoor

/-
  Media: where an address lies; what is read and written there.
-/
namespace Go.Proofs.YtjdnflhejfcgdaaDoor
open Go Go.SL Go.Proofs

theorem where_ok {g : Geo} {a : Int} (h : (whereOf g a).2 = 0) : mayG g = true ∧ -1 ≤ (whereOf g a).1.vol ∧ (whereOf g a).1.vol < g.vols ∧ 0 ≤ (whereOf g a).1.seg ∧ (whereOf g a).1.seg < 256 ∧ 0 ≤ (whereOf g a).1.off ∧ (whereOf g a).1.off < 16 := by
  unfold whereOf at h ⊢
  by_cases h0 : (segOf g a).2 = 0
  · obtain ⟨hm, h1, h2, h3⟩ := segOf_ok h0
    have hg := mayG_is hm
    have hvs := vs_bd hm
    have hb : blocksG g = (g.disk + g.vols * g.segs) * 16 := by unfold blocksG segsG; rw [if_pos hm]
    rw [if_pos h0]
    by_cases hd : (segOf g a).1 < g.disk
    · rw [if_pos hd]
      exact ⟨hm, by simp only; omega, by simp only; omega, by simp only; omega, by simp only; omega, by simp only; omega, by simp only; omega⟩
    · rw [if_neg hd]
      have hlt : (segOf g a).1 - g.disk < g.vols * g.segs := by omega
      have h5 : ((segOf g a).1 - g.disk) / g.segs < g.vols := Int.ediv_lt_of_lt_mul (by omega) hlt
      have h6 : 0 ≤ ((segOf g a).1 - g.disk) / g.segs := Int.ediv_nonneg (by omega) (by omega)
      have h7 := Int.emod_nonneg ((segOf g a).1 - g.disk) (show g.segs ≠ 0 by omega)
      have h8 := Int.emod_lt_of_pos ((segOf g a).1 - g.disk) (show 0 < g.segs by omega)
      exact ⟨hm, by simp only; omega, by simp only; omega, by simp only; omega, by simp only; omega, by simp only; omega, by simp only; omega⟩
  · rw [if_neg h0] at h
    exact absurd h h0

def ptrc (a : Nat) : Array Value := #[.pointer (some ⟨a, 0, none⟩)]
def medCells (g : Geo) (d : Nat) (sv : Value) (gens : List Int) : Array Value := ([.int .i64 g.disk, .int .i64 g.lines, .int .i64 g.vols, .int .i64 g.segs, .pointer (some ⟨d, 0, none⟩), sv] ++ gens.map (Value.int .i64)).toArray
theorem ptr_get {l : List Nat} {g : Nat} (h : g < l.length) : (l.map ptrc).getD g #[] = #[.pointer (some ⟨l[g], 0, none⟩)] := by simp [h, ptrc]

/-- the device of a place: -1 the disk -/
def devAt (d : Nat) (vs : List Nat) (v : Int) : Nat := if v < 0 then d else vs.getD v.toNat 0
def idxAt (p : Place) : Int := if p.vol < 0 then 16 + (p.seg * 16 + p.off) else 1 + (p.seg * 16 + p.off)

theorem medium_block (m : Nat) (g : Geo) (d : Nat) (vs : List Nat) (gens : List Int) (a : Int) (hvs : (vs.length : Int) = g.vols) {L : List HP} {pv : Option Addr} {nv cv : Nat} {T : TypeId} (hm : ReadC L m (.cells (medCells g d (.slice pv nv cv) gens) T)) (hv : SlC L pv 1 nv cv (vs.map ptrc)) :
    Tr Tryd.prog 74 [.pointer (some ⟨m, 0, none⟩), .int .i64 a].toArray L
      (fun v L' => v = (if (whereOf g a).2 = 0 then .tuple #[.pointer (some ⟨devAt d vs (whereOf g a).1.vol, 0, none⟩), .int .i64 (idxAt (whereOf g a).1), .int .i64 0] else .tuple #[.pointer none, .int .i64 0, .int .i64 4]) ∧ L = L') := by
  have hlen : vs.length = nv := by simpa using hv.len
  refine tr_enter Tryd.func74 rfl Tryd.ntmps74 rfl fun w0 => ?_
  have hw := fun (L : List HP) => addr_Where g a (L := L)
  have hok := where_ok (g := g) (a := a)
  by_cases h0 : (whereOf g a).2 = 0
  · rw [if_pos h0]
    rw [h0] at hw
    replace hok := hok h0
    generalize (whereOf g a).1 = p at *
    obtain ⟨vol, seg, off⟩ := p
    simp only [Place.cells, Geo.cells] at hw hok
    by_cases hvol : vol < 0
    · simp only [devAt, idxAt, if_pos hvol]
      repeat' (first
    | (refine s1_load ?_; refine sc_r (L_load_part (by rfl) (by infer_instance) (by rfl) (by rfl)) (by rfl) ?_)
    | refine swl_op ?_
    | (refine s1_move ?_; refine sc_r (R_move (by rfl)) (by rfl) ?_)
    | (refine s1_load ?_; refine sc_r (L_load' (by rfl) (by infer_instance) (by rfl)) (by rfl) ?_)
    | (refine s1_fieldAddr ?_; refine sc_r (R_fieldAddr (by rfl)) (by rfl) ?_)
    | (refine s1_assign ?_; refine sc_r (R_assign (by rfl)) (by rfl) ?_)
    | (refine s1_bin ?_; first | refine sc_r (R_lss (by rfl) (by rfl)) (by rfl) ?_ | refine sc_r (R_add64 (by rfl) (by rfl) (by omega)) (by rfl) ?_ | refine sc_r (R_neq (by rfl) (by rfl)) (by rfl) ?_ | refine sc_r (R_mul64 (by rfl) (by rfl) (by first | assumption | omega)) (by rfl) ?_)
    | (refine s1_call ?_; (refine sc_c (by rfl) (C_call (by rfl) (by infer_instance) (by rfl) (by rfl) (hw _)) (by rfl) ?_; rintro _ _ ⟨rfl, rfl⟩))
    | (refine s1_store ?_; (refine sc_w (by rfl) (W_storeAll (by rfl) (by rfl) (by infer_instance) (by rfl) (by rfl) (by rfl)) (by rfl) ?_; rintro _ _ ⟨rfl, rfl⟩))
    | (refine s1_alloc ?_; (refine sc_w (by rfl) W_allocA (by rfl) ?_; rintro _ _ ⟨_, rfl, rfl⟩))
    | (refine s1_any ?_; first | refine sc_r (R_extract (by rfl) (by rfl)) (by rfl) ?_ | refine sc_r (R_nilCheck (by rfl)) (by rfl) ?_)
    | refine swl_nil ?_
    | refine sx_next ?_
    | refine sw_seq ?_
    | refine sw_region ?_
    | refine sx_past_ret ?_
    | refine sw_cond_false (by rfl) ?_
    | refine sw_cond_pos (by rfl) (by first | assumption | omega) ?_
    | refine sw_ret ?_
    | refine sw_skip ?_
    | fail)
      --DBG
      exact sx_ret_of (res3 rfl (ResOne.tmp rfl) (ResOne.tmp rfl) (ResOne.tmp rfl)) _ ⟨rfl, rfl⟩ (by (repeat (first | exact Ent.refl _ | exact Ent.nil | (apply Ent.pick; focus ((repeat (first | exact Rem.here | apply Rem.there)); done)) | apply Ent.drop)))
    · simp only [devAt, idxAt, if_neg hvol]
      obtain ⟨b1, o1, rfl⟩ := hv.ptr (by omega)
      have hl1 : vol.toNat < vs.length := by omega
      have he1 : (vs.map ptrc).getD vol.toNat #[] = #[.pointer (some ⟨vs.getD vol.toNat 0, 0, none⟩)] := by rw [ptr_get hl1]; simp [List.getD, hl1]
      repeat' (first
    | (refine s1_load ?_; refine sc_r (L_load_part (by rfl) (by infer_instance) (by rfl) (by rfl)) (by rfl) ?_)
    | refine swl_op ?_
    | (refine s1_move ?_; refine sc_r (R_move (by rfl)) (by rfl) ?_)
    | (refine s1_load ?_; first | refine sc_r (L_load' (by rfl) (by infer_instance) (by rfl)) (by rfl) ?_ | refine sc_r (L_load_el1 (by rfl) (by infer_instance) (by omega) (by first | assumption | rfl)) (by rfl) ?_)
    | (refine s1_fieldAddr ?_; refine sc_r (R_fieldAddr (by rfl)) (by rfl) ?_)
    | (refine s1_assign ?_; refine sc_r (R_assign (by rfl)) (by rfl) ?_)
    | (refine s1_bin ?_; first | refine sc_r (R_lss (by rfl) (by rfl)) (by rfl) ?_ | refine sc_r (R_add64 (by rfl) (by rfl) (by omega)) (by rfl) ?_ | refine sc_r (R_neq (by rfl) (by rfl)) (by rfl) ?_ | refine sc_r (R_mul64 (by rfl) (by rfl) (by first | assumption | omega)) (by rfl) ?_)
    | (refine s1_call ?_; (refine sc_c (by rfl) (C_call (by rfl) (by infer_instance) (by rfl) (by rfl) (hw _)) (by rfl) ?_; rintro _ _ ⟨rfl, rfl⟩))
    | (refine s1_indexAddr ?_; refine sc_r (R_indexAddr (by rfl) (by rfl) (by omega)) (by rfl) ?_)
    | (refine s1_store ?_; (refine sc_w (by rfl) (W_storeAll (by rfl) (by rfl) (by infer_instance) (by rfl) (by rfl) (by rfl)) (by rfl) ?_; rintro _ _ ⟨rfl, rfl⟩))
    | (refine s1_alloc ?_; (refine sc_w (by rfl) W_allocA (by rfl) ?_; rintro _ _ ⟨_, rfl, rfl⟩))
    | (refine s1_any ?_; first | refine sc_r (R_extract (by rfl) (by rfl)) (by rfl) ?_ | refine sc_r (R_nilCheck (by rfl)) (by rfl) ?_)
    | refine swl_nil ?_
    | refine sx_next ?_
    | refine sw_seq ?_
    | refine sw_region ?_
    | refine sw_cond_false (by rfl) ?_
    | refine sw_cond_neg (by rfl) (by first | assumption | omega) ?_
    | refine sw_ret ?_
    | refine sw_skip ?_
    | refine swh_lt (by rfl) (fun _ _ => wanted_none) ?_
    | refine swh_nil ?_
    | (refine sw_draw [(0, true), (1, true), (2, true), (3, true), (4, true), (5, true), (6, true), (7, true), (8, true), (9, true), (10, true), (11, true), (12, true)] follows ?_ ?_ ?_; (focus rfl); (focus (decide +kernel)))
    | fail)
      exact sx_ret_of (res3 rfl (ResOne.tmp rfl) (ResOne.tmp rfl) (ResOne.tmp rfl)) _ ⟨rfl, rfl⟩ (by (repeat (first | exact Ent.refl _ | exact Ent.nil | (apply Ent.pick; focus ((repeat (first | exact Rem.here | apply Rem.there)); done)) | apply Ent.drop)))
  · rw [if_neg h0]
    generalize (whereOf g a).2 = e at *
    generalize (whereOf g a).1 = p at *
    simp only [Place.cells, Geo.cells] at hw
    repeat' (first
    | (refine s1_load ?_; refine sc_r (L_load_part (by rfl) (by infer_instance) (by rfl) (by rfl)) (by rfl) ?_)
    | refine swl_op ?_
    | (refine s1_move ?_; refine sc_r (R_move (by rfl)) (by rfl) ?_)
    | (refine s1_fieldAddr ?_; refine sc_r (R_fieldAddr (by rfl)) (by rfl) ?_)
    | (refine s1_assign ?_; refine sc_r (R_assign (by rfl)) (by rfl) ?_)
    | (refine s1_bin ?_; refine sc_r (R_neq (by rfl) (by rfl)) (by rfl) ?_)
    | (refine s1_call ?_; (refine sc_c (by rfl) (C_call (by rfl) (by infer_instance) (by rfl) (by rfl) (hw _)) (by rfl) ?_; rintro _ _ ⟨rfl, rfl⟩))
    | (refine s1_store ?_; (refine sc_w (by rfl) (W_storeAll (by rfl) (by rfl) (by infer_instance) (by rfl) (by rfl) (by rfl)) (by rfl) ?_; rintro _ _ ⟨rfl, rfl⟩))
    | (refine s1_alloc ?_; (refine sc_w (by rfl) W_allocA (by rfl) ?_; rintro _ _ ⟨_, rfl, rfl⟩))
    | (refine s1_any ?_; first | refine sc_r (R_extract (by rfl) (by rfl)) (by rfl) ?_ | refine sc_r (R_nilCheck (by rfl)) (by rfl) ?_)
    | refine swl_nil ?_
    | refine sx_next ?_
    | refine sw_seq ?_
    | refine sw_region ?_
    | refine sx_past_ret ?_
    | refine sw_cond_nneg (by rfl) (by first | assumption | omega) ?_
    | refine sw_ret ?_
    | fail)
    exact sx_ret_of (res3 rfl (ResOne.tmp rfl) (ResOne.tmp rfl) (ResOne.tmp rfl)) _ ⟨rfl, rfl⟩ (by (repeat (first | exact Ent.refl _ | exact Ent.nil | (apply Ent.pick; focus ((repeat (first | exact Rem.here | apply Rem.there)); done)) | apply Ent.drop)))
end Go.Proofs.YtjdnflhejfcgdaaDoor

/-
  Media: the public functions that read, write, flush.
-/
namespace Go.Proofs.YtjdnflhejfcgdaaDoor
open Go Go.SL Go.Proofs

structure MedOK (g : Geo) (vs : List Nat) (gens : List Int) : Prop where
  g8 : gens.length = 8
  nv : (vs.length : Int) = g.vols
  may : mayG g = true
  gr : ∀ x ∈ gens, -1 ≤ x ∧ x ≤ 4294967295
/-- a medium at m, on the disk d and the volumes vs -/
def medP (m d : Nat) (vs : List Nat) (g : Geo) (gens : List Int) : HP := ex fun sv : Value => st [pt m (.cells (medCells g d sv gens) 108), vec 58 1 (vs.map ptrc) sv, fact (MedOK g vs gens)]
attribute [irreducible] medP
theorem medP_open {m d : Nat} {vs : List Nat} {g : Geo} {gens : List Int} {L : List HP} {h : Hp} (H : Own (medP m d vs g gens :: L) h) : ∃ pv cv, SlOK pv vs.length cv ∧ MedOK g vs gens ∧
    Own (pt m (.cells (medCells g d (.slice pv vs.length cv) gens) 108) :: vec 58 1 (vs.map ptrc) (.slice pv vs.length cv) :: L) h := by
  unfold medP at H
  obtain ⟨sv, H⟩ := own_ex H
  replace H := own_st H
  simp only [List.cons_append, List.nil_append] at H
  obtain ⟨pv, cv, rfl, h1⟩ := vec_fact (Ent.own (show Ent _ [vec 58 1 (vs.map ptrc) sv] from by (repeat (first | exact Ent.refl _ | exact Ent.nil | (apply Ent.pick; focus ((repeat (first | exact Rem.here | apply Rem.there)); done)) | apply Ent.drop))) H)
  have hOK : MedOK g vs gens := own_fact (Ent.own (show Ent _ [fact (MedOK g vs gens)] from by (repeat (first | exact Ent.refl _ | exact Ent.nil | (apply Ent.pick; focus ((repeat (first | exact Rem.here | apply Rem.there)); done)) | apply Ent.drop))) H)
  simp only [List.length_map] at H h1
  exact ⟨pv, cv, h1, hOK, Ent.own (by (repeat (first | exact Ent.refl _ | exact Ent.nil | (apply Ent.pick; focus ((repeat (first | exact Rem.here | apply Rem.there)); done)) | apply Ent.drop))) H⟩
theorem med_close {m d : Nat} {vs : List Nat} {g : Geo} {gens : List Int} {L : List HP} {sv : Value} (hOK : MedOK g vs gens) :
    Ent (pt m (.cells (medCells g d sv gens) 108) :: vec 58 1 (vs.map ptrc) sv :: L) (medP m d vs g gens :: L) := by
  refine (Ent.fact_intro hOK).trans ?_
  unfold medP
  refine Ent.trans ?_ (Ent.ex_intro sv)
  refine Ent.trans ?_ Ent.shut_st
  simp only [List.cons_append, List.nil_append]
  (repeat (first | exact Ent.refl _ | exact Ent.nil | (apply Ent.pick; focus ((repeat (first | exact Rem.here | apply Rem.there)); done)) | apply Ent.drop))
section
variable {P : Program} {f : FuncId} {args : Array Value} {L : List HP} {R : Value → List HP → Prop}
theorem Tr.open_med {m d : Nat} {vs : List Nat} {g : Geo} {gens : List Int} (h : ∀ pv cv, SlOK pv vs.length cv → MedOK g vs gens →
    Tr P f args (pt m (.cells (medCells g d (.slice pv vs.length cv) gens) 108) :: vec 58 1 (vs.map ptrc) (.slice pv vs.length cv) :: L) R) : Tr P f args (medP m d vs g gens :: L) R := .mk fun w0 w hs => by
  obtain ⟨pv, cv, h1, h2, H⟩ := medP_open hs.own
  exact (h pv cv h1 h2).h w0 w ⟨hs.os, hs.tape, hs.output, hs.size, hs.drawn, H⟩
end

theorem medium_is (m : Nat) (v : Int) (g : Geo) (d : Nat) (gens : List Int) {nv : Nat} {pv : Option Addr} {cv : Nat} {T : TypeId} {L : List HP} (hm : ReadC L m (.cells (medCells g d (.slice pv nv cv) gens) T)) :
    Tr Tryd.prog 73 [.pointer (some ⟨m, 0, none⟩), .int .i64 v].toArray L (fun r L' => r = .bool (decide (0 ≤ v ∧ v < nv)) ∧ L = L') := by
  refine tr_enter Tryd.func73 rfl Tryd.ntmps73 rfl fun w0 => ?_
  repeat' (first
    | refine swl_op ?_
    | (refine s1_move ?_; refine sc_r (R_move (by rfl)) (by rfl) ?_)
    | (refine s1_load ?_; refine sc_r (L_load' (by rfl) (by infer_instance) (by rfl)) (by rfl) ?_)
    | (refine s1_fieldAddr ?_; refine sc_r (R_fieldAddr (by rfl)) (by rfl) ?_)
    | (refine s1_assign ?_; refine sc_r (R_assign (by rfl)) (by rfl) ?_)
    | (refine s1_pick ?_; first | refine sc_r (R_pick_t (by rfl) (by rfl)) (by rfl) ?_ | refine sc_r (R_pick_f (by rfl) (by rfl)) (by rfl) ?_)
    | (refine s1_bin ?_; first | refine sc_r (R_lss (by rfl) (by rfl)) (by rfl) ?_ | refine sc_r (R_geq (by rfl) (by rfl)) (by rfl) ?_)
    | (refine s1_call ?_; refine sc_r (R_len (by rfl)) (by rfl) ?_)
    | (refine s1_any ?_; refine sc_r (R_nilCheck (by rfl)) (by rfl) ?_)
    | refine swl_nil ?_
    | refine sx_next ?_
    | refine sw_seq ?_
    | refine sw_region ?_
    | refine swl_g_on (by rfl) (by rfl) ?_
    | refine swl_g_off (by rfl) (by rfl) (by rfl) (by rfl) ?_
    | refine swl_g_dec (by rfl) (by rfl) (fun hp => ?_) (fun hp => ?_)
    | refine sw_ret ?_
    | fail)
  all_goals refine sx_ret_of (res1 rfl (ResOne.tmp rfl)) L ⟨?_, rfl⟩ (by (repeat (first | exact Ent.refl _ | exact Ent.nil | (apply Ent.pick; focus ((repeat (first | exact Rem.here | apply Rem.there)); done)) | apply Ent.drop)))
  all_goals (congr 1; simp; omega)
theorem medium_is' (m : Nat) (v : Int) (t : Bool) {nv : Nat} {pv : Option Addr} {cv : Nat} {g : Geo} {d : Nat} {gens : List Int} {T : TypeId} {L : List HP} (hm : ReadC L m (.cells (medCells g d (.slice pv nv cv) gens) T)) (h : decide (0 ≤ v ∧ v < (nv : Int)) = t) :
    Tr Tryd.prog 73 [.pointer (some ⟨m, 0, none⟩), .int .i64 v].toArray L (fun r L' => r = .bool t ∧ L = L') := h ▸ medium_is m v g d gens hm

def devOf (s : DevS) (vl : List (Nat × DevS)) (v : Int) : DevS := if v < 0 then s else (vl.getD v.toNat (0, s)).2
def rdME (g : Geo) (s : DevS) (vl : List (Nat × DevS)) (a : Int) : Int := if (whereOf g a).2 = 0 then rdE (devOf s vl (whereOf g a).1.vol) (idxAt (whereOf g a).1) else 4
def rdMB (g : Geo) (s : DevS) (vl : List (Nat × DevS)) (a : Int) : List Int := if (whereOf g a).2 = 0 then rdB (devOf s vl (whereOf g a).1.vol) (idxAt (whereOf g a).1) else []

set_option maxHeartbeats 1000000 in
theorem medium_Read (m d : Nat) (g : Geo) (gens : List Int) (s : DevS) (vl : List (Nat × DevS)) (a : Int) {F : List HP} :
    Tr Tryd.prog 34 [.pointer (some ⟨m, 0, none⟩), .int .i64 a].toArray (medP m d (vl.map Prod.fst) g gens :: devP d s :: devsP vl :: F)
      (fun v L' => ∃ sl, v = .tuple #[sl, .int .i64 (rdME g s vl a)] ∧ L' = vec 147 1 ((rdMB g s vl a).map u8c) sl :: medP m d (vl.map Prod.fst) g gens :: devP d s :: devsP vl :: F) := by
  refine Tr.open_med fun pv cv h1 h2 => ?_
  refine tr_enter Tryd.func34 rfl Tryd.ntmps34 rfl fun w0 => ?_
  have hB := fun (L : List HP) (hm : ReadC L m (.cells (medCells g d (.slice pv (vl.map Prod.fst).length cv) gens) 108)) (hv : SlC L pv 1 (vl.map Prod.fst).length cv ((vl.map Prod.fst).map ptrc)) => medium_block m g d (vl.map Prod.fst) gens a h2.nv hm hv
  unfold rdME rdMB
  have hok := where_ok (g := g) (a := a)
  by_cases h0 : (whereOf g a).2 = 0
  · rw [if_pos h0, if_pos h0]
    simp only [if_pos h0] at hB
    replace hok := hok h0
    generalize (whereOf g a).1 = p at *
    by_cases hvol : p.vol < 0
    · simp only [devAt, devOf, if_pos hvol] at hB ⊢
      repeat' (first
    | refine swl_op ?_
    | (refine s1_move ?_; refine sc_r (R_move (by rfl)) (by rfl) ?_)
    | (refine s1_assign ?_; refine sc_r (R_assign (by rfl)) (by rfl) ?_)
    | (refine s1_bin ?_; refine sc_r (R_neq (by rfl) (by rfl)) (by rfl) ?_)
    | (refine s1_call ?_; first | (refine sc_c (by rfl) (C_call (by rfl) (by infer_instance) (by rfl) (by rfl) (hB _ (by infer_instance) (by infer_instance))) (by rfl) ?_; rintro _ _ ⟨rfl, rfl⟩) | (refine sc_c (by rfl) (C_call (by rfl) (by infer_instance) (by rfl) (by rfl) (Tr.ent (Ent.pick (by focus ((repeat (first | exact Rem.here | apply Rem.there)); done)) (Ent.refl _)) (dev_Read d s (idxAt p)))) (by rfl) ?_; rintro _ _ ⟨sl, rfl, rfl⟩))
    | (refine s1_any ?_; refine sc_r (R_extract (by rfl) (by rfl)) (by rfl) ?_)
    | refine swl_nil ?_
    | refine sx_next ?_
    | refine sw_seq ?_
    | refine sw_region ?_
    | refine sw_cond_false (by rfl) ?_
    | refine sw_ret ?_
    | refine sw_skip ?_
    | fail)
      refine sx_ret_of (res2 rfl (ResOne.tmp rfl) (ResOne.tmp rfl)) _ ⟨_, rfl, rfl⟩ ?_
      refine Ent.pick (by focus ((repeat (first | exact Rem.here | apply Rem.there)); done)) (Ent.trans ?_ (med_close h2 (sv := .slice pv (vl.map Prod.fst).length cv)))
      (repeat (first | exact Ent.refl _ | exact Ent.nil | (apply Ent.pick; focus ((repeat (first | exact Rem.here | apply Rem.there)); done)) | apply Ent.drop))
    · have hnv := h2.nv
      rw [List.length_map] at hnv
      have hi : p.vol.toNat < vl.length := by omega
      have hp1 : (vl.map Prod.fst).getD p.vol.toNat 0 = vl[p.vol.toNat].1 := by simp [List.getD, hi]
      have hp2 : (vl.getD p.vol.toNat (0, s)).2 = vl[p.vol.toNat].2 := by simp [List.getD, hi]
      simp only [devAt, devOf, if_neg hvol, hp1, hp2] at hB ⊢
      repeat' (first
    | refine swl_op ?_
    | (refine s1_move ?_; refine sc_r (R_move (by rfl)) (by rfl) ?_)
    | (refine s1_assign ?_; refine sc_r (R_assign (by rfl)) (by rfl) ?_)
    | (refine s1_bin ?_; refine sc_r (R_neq (by rfl) (by rfl)) (by rfl) ?_)
    | (refine s1_call ?_; first | (refine sc_c (by rfl) (C_call (by rfl) (by infer_instance) (by rfl) (by rfl) (hB _ (by infer_instance) (by infer_instance))) (by rfl) ?_; rintro _ _ ⟨rfl, rfl⟩) | (refine sc_c (by rfl) (C_call (by rfl) (by infer_instance) (by rfl) (by rfl) (Tr.ent (Ent.trans (Ent.pick (by focus ((repeat (first | exact Rem.here | apply Rem.there)); done)) (Ent.refl _)) (devs_cut vl p.vol.toNat hi)) (dev_Read vl[p.vol.toNat].1 vl[p.vol.toNat].2 (idxAt p)))) (by rfl) ?_; rintro _ _ ⟨sl, rfl, rfl⟩))
    | (refine s1_any ?_; refine sc_r (R_extract (by rfl) (by rfl)) (by rfl) ?_)
    | refine swl_nil ?_
    | refine sx_next ?_
    | refine sw_seq ?_
    | refine sw_region ?_
    | refine sw_cond_false (by rfl) ?_
    | refine sw_ret ?_
    | refine sw_skip ?_
    | fail)
      refine sx_ret_of (res2 rfl (ResOne.tmp rfl) (ResOne.tmp rfl)) _ ⟨_, rfl, rfl⟩ ?_
      refine Ent.pick (by focus ((repeat (first | exact Rem.here | apply Rem.there)); done)) (Ent.trans ?_ (med_close h2 (sv := .slice pv (vl.map Prod.fst).length cv)))
      refine Ent.pick (by focus ((repeat (first | exact Rem.here | apply Rem.there)); done)) (Ent.pick (by focus ((repeat (first | exact Rem.here | apply Rem.there)); done)) (Ent.pick (by focus ((repeat (first | exact Rem.here | apply Rem.there)); done)) ?_))
      exact devs_same vl p.vol.toNat hi
  · rw [if_neg h0, if_neg h0]
    simp only [if_neg h0] at hB
    repeat' (first
    | refine swl_op ?_
    | (refine s1_move ?_; refine sc_r (R_move (by rfl)) (by rfl) ?_)
    | (refine s1_assign ?_; refine sc_r (R_assign (by rfl)) (by rfl) ?_)
    | (refine s1_bin ?_; refine sc_r (R_neq (by rfl) (by rfl)) (by rfl) ?_)
    | (refine s1_call ?_; (refine sc_c (by rfl) (C_call (by rfl) (by infer_instance) (by rfl) (by rfl) (hB _ (by infer_instance) (by infer_instance))) (by rfl) ?_; rintro _ _ ⟨rfl, rfl⟩))
    | (refine s1_any ?_; refine sc_r (R_extract (by rfl) (by rfl)) (by rfl) ?_)
    | refine swl_nil ?_
    | refine sx_next ?_
    | refine sw_seq ?_
    | refine sw_region ?_
    | refine sx_past_ret ?_
    | refine sw_cond_true (by rfl) ?_
    | refine sw_ret ?_
    | fail)
    refine sx_ret_of (res2 rfl (ResOne.tmp rfl) (ResOne.tmp rfl)) _ ⟨_, rfl, rfl⟩ (Ent.trans (Ent.trans ?_ (med_close h2 (sv := .slice pv (vl.map Prod.fst).length cv))) Ent.vec_nil)
    (repeat (first | exact Ent.refl _ | exact Ent.nil | (apply Ent.pick; focus ((repeat (first | exact Rem.here | apply Rem.there)); done)) | apply Ent.drop))

def wrME (g : Geo) (s : DevS) (vl : List (Nat × DevS)) (a : Int) (n : Nat) : Int := if (whereOf g a).2 = 0 then wrE (devOf s vl (whereOf g a).1.vol) (idxAt (whereOf g a).1) n else 4
def wrMD (g : Geo) (s : DevS) (a : Int) (b : List Int) : DevS := if (whereOf g a).2 = 0 ∧ (whereOf g a).1.vol < 0 then wrS s (idxAt (whereOf g a).1) b else s
def setV (vl : List (Nat × DevS)) (i : Nat) (f : DevS → DevS) : List (Nat × DevS) := vl.modify i fun x => (x.1, f x.2)
theorem setV_len (vl : List (Nat × DevS)) (i : Nat) (f : DevS → DevS) : (setV vl i f).length = vl.length := by simp [setV]
theorem setV_set {vl : List (Nat × DevS)} {i : Nat} (h : i < vl.length) (f : DevS → DevS) : setV vl i f = vl.set i (vl[i].1, f vl[i].2) := by
  apply List.ext_getElem?
  intro k
  simp only [setV, List.getElem?_modify, List.getElem?_set]
  by_cases hk : i = k
  · subst hk; simp [h]
  · simp [hk]
theorem setV_fst (vl : List (Nat × DevS)) (i : Nat) (f : DevS → DevS) : (setV vl i f).map Prod.fst = vl.map Prod.fst := by
  apply List.ext_getElem?
  intro k
  simp only [setV, List.getElem?_map, List.getElem?_modify]
  by_cases h : i = k
  · subst h
    simp only [if_true]
    cases vl[i]? <;> rfl
  · simp [h]
def wrMV (g : Geo) (vl : List (Nat × DevS)) (a : Int) (b : List Int) : List (Nat × DevS) := if (whereOf g a).2 = 0 ∧ 0 ≤ (whereOf g a).1.vol then setV vl (whereOf g a).1.vol.toNat (fun s => wrS s (idxAt (whereOf g a).1) b) else vl
theorem wrMV_fst (g : Geo) (vl : List (Nat × DevS)) (a : Int) (b : List Int) : (wrMV g vl a b).map Prod.fst = vl.map Prod.fst := by
  unfold wrMV; split
  · exact setV_fst _ _ _
  · rfl

set_option maxHeartbeats 1000000 in
theorem medium_Write (m d : Nat) (g : Geo) (gens : List Int) (s : DevS) (vl : List (Nat × DevS)) (a : Int) (b : List Int) (hps : s.pend.length ≤ 1000000000) (hpv : ∀ x ∈ vl, x.2.pend.length ≤ 1000000000) {p : Option Addr} {n c : Nat} {F : List HP} (hb : SlC F p 1 n c (b.map u8c)) :
    Tr Tryd.prog 72 [.pointer (some ⟨m, 0, none⟩), .int .i64 a, .slice p n c].toArray (medP m d (vl.map Prod.fst) g gens :: devP d s :: devsP vl :: F)
      (fun v L' => v = .int .i64 (wrME g s vl a b.length) ∧ L' = medP m d (vl.map Prod.fst) g gens :: devP d (wrMD g s a b) :: devsP (wrMV g vl a b) :: F) := by
  refine Tr.open_med fun pv cv h1 h2 => ?_
  refine tr_enter Tryd.func72 rfl Tryd.ntmps72 rfl fun w0 => ?_
  have hB := fun (L : List HP) (hm : ReadC L m (.cells (medCells g d (.slice pv (vl.map Prod.fst).length cv) gens) 108)) (hv : SlC L pv 1 (vl.map Prod.fst).length cv ((vl.map Prod.fst).map ptrc)) => medium_block m g d (vl.map Prod.fst) gens a h2.nv hm hv
  unfold wrME wrMD wrMV
  have hok := where_ok (g := g) (a := a)
  by_cases h0 : (whereOf g a).2 = 0
  · rw [if_pos h0]
    simp only [if_pos h0] at hB
    simp only [h0, true_and]
    replace hok := hok h0
    generalize (whereOf g a).1 = q at *
    by_cases hvol : q.vol < 0
    · rw [if_neg (show ¬ 0 ≤ q.vol by omega)]
      simp only [devAt, devOf, if_pos hvol] at hB ⊢
      repeat' (first
    | refine swl_op ?_
    | (refine s1_move ?_; refine sc_r (R_move (by rfl)) (by rfl) ?_)
    | (refine s1_assign ?_; refine sc_r (R_assign (by rfl)) (by rfl) ?_)
    | (refine s1_bin ?_; refine sc_r (R_neq (by rfl) (by rfl)) (by rfl) ?_)
    | (refine s1_call ?_; first | (refine sc_c (by rfl) (C_call (by rfl) (by infer_instance) (by rfl) (by rfl) (hB _ (by infer_instance) (by infer_instance))) (by rfl) ?_; rintro _ _ ⟨rfl, rfl⟩) | (refine sc_c (by rfl) (C_call (by rfl) (by infer_instance) (by rfl) (by rfl) (Tr.ent (Ent.pick (by focus ((repeat (first | exact Rem.here | apply Rem.there)); done)) (Ent.refl _)) (dev_Write d s (idxAt q) b hps (by infer_instance)))) (by rfl) ?_; rintro _ _ ⟨rfl, rfl⟩))
    | (refine s1_any ?_; refine sc_r (R_extract (by rfl) (by rfl)) (by rfl) ?_)
    | refine swl_nil ?_
    | refine sx_next ?_
    | refine sw_seq ?_
    | refine sw_region ?_
    | refine sw_cond_false (by rfl) ?_
    | refine sw_ret ?_
    | refine sw_skip ?_
    | fail)
      refine sx_ret_of (res1 rfl (ResOne.tmp rfl)) _ ⟨rfl, rfl⟩ (Ent.trans ?_ (med_close h2 (sv := .slice pv (vl.map Prod.fst).length cv)))
      (repeat (first | exact Ent.refl _ | exact Ent.nil | (apply Ent.pick; focus ((repeat (first | exact Rem.here | apply Rem.there)); done)) | apply Ent.drop))
    · have hnv := h2.nv
      rw [List.length_map] at hnv
      have hi : q.vol.toNat < vl.length := by omega
      have hp1 : (vl.map Prod.fst).getD q.vol.toNat 0 = vl[q.vol.toNat].1 := by simp [List.getD, hi]
      have hp2 : (vl.getD q.vol.toNat (0, s)).2 = vl[q.vol.toNat].2 := by simp [List.getD, hi]
      rw [if_pos (show 0 ≤ q.vol by omega)]
      simp only [devAt, devOf, if_neg hvol, hp1, hp2] at hB ⊢
      have hpq := hpv vl[q.vol.toNat] (List.getElem_mem hi)
      repeat' (first
    | refine swl_op ?_
    | (refine s1_move ?_; refine sc_r (R_move (by rfl)) (by rfl) ?_)
    | (refine s1_assign ?_; refine sc_r (R_assign (by rfl)) (by rfl) ?_)
    | (refine s1_bin ?_; refine sc_r (R_neq (by rfl) (by rfl)) (by rfl) ?_)
    | (refine s1_call ?_; first | (refine sc_c (by rfl) (C_call (by rfl) (by infer_instance) (by rfl) (by rfl) (hB _ (by infer_instance) (by infer_instance))) (by rfl) ?_; rintro _ _ ⟨rfl, rfl⟩) | (refine sc_c (by rfl) (C_call (by rfl) (by infer_instance) (by rfl) (by rfl) (Tr.ent (Ent.trans (Ent.pick (by focus ((repeat (first | exact Rem.here | apply Rem.there)); done)) (Ent.refl _)) (devs_cut vl q.vol.toNat hi)) (dev_Write vl[q.vol.toNat].1 vl[q.vol.toNat].2 (idxAt q) b hpq (by infer_instance)))) (by rfl) ?_; rintro _ _ ⟨rfl, rfl⟩))
    | (refine s1_any ?_; refine sc_r (R_extract (by rfl) (by rfl)) (by rfl) ?_)
    | refine swl_nil ?_
    | refine sx_next ?_
    | refine sw_seq ?_
    | refine sw_region ?_
    | refine sw_cond_false (by rfl) ?_
    | refine sw_ret ?_
    | refine sw_skip ?_
    | fail)
      refine sx_ret_of (res1 rfl (ResOne.tmp rfl)) _ ⟨rfl, rfl⟩ (Ent.trans ?_ (med_close h2 (sv := .slice pv (vl.map Prod.fst).length cv)))
      refine Ent.pick (by focus ((repeat (first | exact Rem.here | apply Rem.there)); done)) (Ent.pick (by focus ((repeat (first | exact Rem.here | apply Rem.there)); done)) (Ent.pick (by focus ((repeat (first | exact Rem.here | apply Rem.there)); done)) ?_))
      rw [setV_set hi]
      exact devs_put vl q.vol.toNat hi _
  · rw [if_neg h0, if_neg (by simp [h0]), if_neg (by simp [h0])]
    simp only [if_neg h0] at hB
    repeat' (first
    | refine swl_op ?_
    | (refine s1_move ?_; refine sc_r (R_move (by rfl)) (by rfl) ?_)
    | (refine s1_assign ?_; refine sc_r (R_assign (by rfl)) (by rfl) ?_)
    | (refine s1_bin ?_; refine sc_r (R_neq (by rfl) (by rfl)) (by rfl) ?_)
    | (refine s1_call ?_; (refine sc_c (by rfl) (C_call (by rfl) (by infer_instance) (by rfl) (by rfl) (hB _ (by infer_instance) (by infer_instance))) (by rfl) ?_; rintro _ _ ⟨rfl, rfl⟩))
    | (refine s1_any ?_; refine sc_r (R_extract (by rfl) (by rfl)) (by rfl) ?_)
    | refine swl_nil ?_
    | refine sx_next ?_
    | refine sw_seq ?_
    | refine sw_region ?_
    | refine sx_past_ret ?_
    | refine sw_cond_true (by rfl) ?_
    | refine sw_ret ?_
    | fail)
    refine sx_ret_of (res1 rfl (ResOne.tmp rfl)) _ ⟨rfl, rfl⟩ (Ent.trans ?_ (med_close h2 (sv := .slice pv (vl.map Prod.fst).length cv)))
    (repeat (first | exact Ent.refl _ | exact Ent.nil | (apply Ent.pick; focus ((repeat (first | exact Rem.here | apply Rem.there)); done)) | apply Ent.drop))

def flS (s : DevS) : DevS := if spE s = 0 then flushS s else spendS s
def flME (s : DevS) (vl : List (Nat × DevS)) (v : Int) : Int := if v = -1 then spE s else if 0 ≤ v ∧ v < (vl.length : Int) then spE (vl.getD v.toNat (0, s)).2 else 4
def flMD (s : DevS) (v : Int) : DevS := if v = -1 then flS s else s
def flMV (vl : List (Nat × DevS)) (v : Int) : List (Nat × DevS) := if 0 ≤ v ∧ v < (vl.length : Int) then setV vl v.toNat flS else vl
theorem flMV_fst (vl : List (Nat × DevS)) (v : Int) : (flMV vl v).map Prod.fst = vl.map Prod.fst := by
  unfold flMV; split
  · exact setV_fst _ _ _
  · rfl
theorem medium_Flush (m d : Nat) (g : Geo) (gens : List Int) (s : DevS) (vl : List (Nat × DevS)) (v : Int) {F : List HP} :
    Tr Tryd.prog 32 [.pointer (some ⟨m, 0, none⟩), .int .i64 v].toArray (medP m d (vl.map Prod.fst) g gens :: devP d s :: devsP vl :: F)
      (fun r L' => r = .int .i64 (flME s vl v) ∧ L' = medP m d (vl.map Prod.fst) g gens :: devP d (flMD s v) :: devsP (flMV vl v) :: F) := by
  refine Tr.open_med fun pv cv h1 h2 => ?_
  refine tr_enter Tryd.func32 rfl Tryd.ntmps32 rfl fun w0 => ?_
  unfold flME flMD flMV
  by_cases hd : v = -1
  · subst hd
    simp only [if_true]
    rw [if_neg (by omega)]
    repeat' (first
    | refine swl_op ?_
    | (refine s1_move ?_; refine sc_r (R_move (by rfl)) (by rfl) ?_)
    | (refine s1_load ?_; refine sc_r (L_load' (by rfl) (by infer_instance) (by rfl)) (by rfl) ?_)
    | (refine s1_fieldAddr ?_; refine sc_r (R_fieldAddr (by rfl)) (by rfl) ?_)
    | (refine s1_assign ?_; refine sc_r (R_assign (by rfl)) (by rfl) ?_)
    | (refine s1_bin ?_; refine sc_r (R_eql (by rfl) (by rfl)) (by rfl) ?_)
    | (refine s1_call ?_; (refine sc_c (by rfl) (C_call (by rfl) (by infer_instance) (by rfl) (by rfl) (Tr.ent (Ent.pick (by focus ((repeat (first | exact Rem.here | apply Rem.there)); done)) (Ent.refl _)) (dev_Flush d s))) (by rfl) ?_; rintro _ _ ⟨rfl, rfl⟩))
    | (refine s1_any ?_; refine sc_r (R_nilCheck (by rfl)) (by rfl) ?_)
    | refine swl_nil ?_
    | refine sx_next ?_
    | refine sw_seq ?_
    | refine sw_region ?_
    | refine sx_past_ret ?_
    | refine sw_cond_true (by rfl) ?_
    | refine sw_ret ?_
    | fail)
    refine sx_ret_of (res1 rfl (ResOne.tmp rfl)) _ ⟨rfl, rfl⟩ (Ent.trans ?_ (med_close h2 (sv := .slice pv (vl.map Prod.fst).length cv)))
    (repeat (first | exact Ent.refl _ | exact Ent.nil | (apply Ent.pick; focus ((repeat (first | exact Rem.here | apply Rem.there)); done)) | apply Ent.drop))
  · rw [if_neg hd, if_neg hd]
    by_cases hv : 0 ≤ v ∧ v < (vl.length : Int)
    · have hv2 : decide (0 ≤ v ∧ v < ((vl.map Prod.fst).length : Int)) = true := by rw [List.length_map]; simpa using hv
      rw [if_pos hv, if_pos hv]
      have hi : v.toNat < vl.length := by omega
      have hll : (vl.map Prod.fst).length = vl.length := by simp
      obtain ⟨b1, o1, rfl⟩ := h1.ptr (by omega)
      have he1 : ((vl.map Prod.fst).map ptrc).getD v.toNat #[] = #[.pointer (some ⟨vl[v.toNat].1, 0, none⟩)] := by rw [ptr_get (by omega)]; simp
      have hp2 : (vl.getD v.toNat (0, s)).2 = vl[v.toNat].2 := by simp [List.getD, hi]
      rw [hp2]
      repeat' (first
    | refine swl_op ?_
    | (refine s1_move ?_; refine sc_r (R_move (by rfl)) (by rfl) ?_)
    | (refine s1_load ?_; first | refine sc_r (L_load' (by rfl) (by infer_instance) (by rfl)) (by rfl) ?_ | refine sc_r (L_load_el1 (by rfl) (by infer_instance) (by omega) (by first | assumption | rfl)) (by rfl) ?_)
    | (refine s1_fieldAddr ?_; refine sc_r (R_fieldAddr (by rfl)) (by rfl) ?_)
    | (refine s1_assign ?_; refine sc_r (R_assign (by rfl)) (by rfl) ?_)
    | (refine s1_bin ?_; refine sc_r (R_eql (by rfl) (by rfl)) (by rfl) ?_)
    | (refine s1_call ?_; first | (refine sc_c (by rfl) (C_call (by rfl) (by infer_instance) (by rfl) (by rfl) (medium_is' m v _ (by infer_instance) hv2)) (by rfl) ?_; rintro _ _ ⟨rfl, rfl⟩) | (refine sc_c (by rfl) (C_call (by rfl) (by infer_instance) (by rfl) (by rfl) (Tr.ent (Ent.trans (Ent.pick (by focus ((repeat (first | exact Rem.here | apply Rem.there)); done)) (Ent.refl _)) (devs_cut vl v.toNat hi)) (dev_Flush vl[v.toNat].1 vl[v.toNat].2))) (by rfl) ?_; rintro _ _ ⟨rfl, rfl⟩))
    | (refine s1_indexAddr ?_; refine sc_r (R_indexAddr (by rfl) (by rfl) (by omega)) (by rfl) ?_)
    | (refine s1_any ?_; first | refine sc_r (R_not (by rfl)) (by rfl) ?_ | refine sc_r (R_nilCheck (by rfl)) (by rfl) ?_)
    | refine swl_nil ?_
    | refine sx_next ?_
    | refine sw_seq ?_
    | refine sw_region ?_
    | refine sw_cond_false (by rfl) ?_
    | refine sw_cond_neg (by rfl) (by first | assumption | omega) ?_
    | refine sw_ret ?_
    | refine sw_skip ?_
    | fail)
      refine sx_ret_of (res1 rfl (ResOne.tmp rfl)) _ ⟨rfl, rfl⟩ (Ent.trans ?_ (med_close h2 (sv := .slice (some ⟨b1, o1, none⟩) (vl.map Prod.fst).length cv)))
      refine Ent.pick (by focus ((repeat (first | exact Rem.here | apply Rem.there)); done)) (Ent.pick (by focus ((repeat (first | exact Rem.here | apply Rem.there)); done)) (Ent.pick (by focus ((repeat (first | exact Rem.here | apply Rem.there)); done)) ?_))
      rw [setV_set hi]
      exact devs_put vl v.toNat hi _
    · have hv2 : decide (0 ≤ v ∧ v < ((vl.map Prod.fst).length : Int)) = false := by rw [List.length_map]; simpa using hv
      rw [if_neg hv, if_neg hv]
      repeat' (first
    | refine swl_op ?_
    | (refine s1_move ?_; refine sc_r (R_move (by rfl)) (by rfl) ?_)
    | (refine s1_assign ?_; refine sc_r (R_assign (by rfl)) (by rfl) ?_)
    | (refine s1_bin ?_; refine sc_r (R_eql (by rfl) (by rfl)) (by rfl) ?_)
    | (refine s1_call ?_; (refine sc_c (by rfl) (C_call (by rfl) (by infer_instance) (by rfl) (by rfl) (medium_is' m v _ (by infer_instance) hv2)) (by rfl) ?_; rintro _ _ ⟨rfl, rfl⟩))
    | (refine s1_any ?_; refine sc_r (R_not (by rfl)) (by rfl) ?_)
    | refine swl_nil ?_
    | refine sx_next ?_
    | refine sw_seq ?_
    | refine sw_region ?_
    | refine sx_past_ret ?_
    | refine sw_cond_true (by rfl) ?_
    | refine sw_cond_neg (by rfl) (by first | assumption | omega) ?_
    | refine sw_ret ?_
    | refine sw_skip ?_
    | fail)
      refine sx_ret_of (res1 rfl (ResOne.tmp rfl)) _ ⟨rfl, rfl⟩ (Ent.trans ?_ (med_close h2 (sv := .slice pv (vl.map Prod.fst).length cv)))
      (repeat (first | exact Ent.refl _ | exact Ent.nil | (apply Ent.pick; focus ((repeat (first | exact Rem.here | apply Rem.there)); done)) | apply Ent.drop))
end Go.Proofs.YtjdnflhejfcgdaaDoor

/-
  Media: Gen, Geo, Blank; what a label says.
-/
namespace Go.Proofs.YtjdnflhejfcgdaaDoor
open Go Go.SL Go.Proofs

theorem gens_get {g : Geo} {d : Nat} {sv : Value} {gens : List Int} {i : Nat} (h : i < gens.length) : (medCells g d sv gens)[0 + 6 + i * 1]? = some (.int .i64 (gens.getD i 0)) := by
  rw [show 0 + 6 + i * 1 = i + 6 by omega]
  simp [medCells, List.getD, h]
theorem gens_set {g : Geo} {d : Nat} {sv : Value} {gens : List Int} {i : Nat} {z : Int} : (medCells g d sv gens).setIfInBounds (0 + 6 + i * 1) (.int .i64 z) = medCells g d sv (gens.set i z) := by
  rw [show 0 + 6 + i * 1 = i + 6 by omega]
  simp [medCells, List.map_set]

def genF (n : Nat) (gens : List Int) (v : Int) : Int := if 0 ≤ v ∧ v < (n : Int) then gens.getD v.toNat 0 else -1
theorem medium_Gen (m d : Nat) (g : Geo) (gens : List Int) (vs : List Nat) (v : Int) {F : List HP} :
    Tr Tryd.prog 39 [.pointer (some ⟨m, 0, none⟩), .int .i64 v].toArray (medP m d vs g gens :: F) (fun r L' => r = .int .i64 (genF vs.length gens v) ∧ L' = medP m d vs g gens :: F) := by
  refine Tr.open_med fun pv cv h1 h2 => ?_
  refine tr_enter Tryd.func39 rfl Tryd.ntmps39 rfl fun w0 => ?_
  unfold genF
  have hg := mayG_is h2.may
  have h8 := h2.g8
  have hnv := h2.nv
  by_cases hv : 0 ≤ v ∧ v < (vs.length : Int)
  · have hv2 : decide (0 ≤ v ∧ v < (vs.length : Int)) = true := by simpa using hv
    rw [if_pos hv]
    have he := gens_get (g := g) (d := d) (sv := .slice pv vs.length cv) (gens := gens) (i := v.toNat) (by omega)
    repeat' (first
    | refine swl_op ?_
    | (refine s1_move ?_; refine sc_r (R_move (by rfl)) (by rfl) ?_)
    | (refine s1_load ?_; refine sc_r (L_load (by rfl) (by infer_instance) (by assumption)) (by rfl) ?_)
    | (refine s1_fieldAddr ?_; refine sc_r (R_fieldAddr (by rfl)) (by rfl) ?_)
    | (refine s1_assign ?_; refine sc_r (R_assign (by rfl)) (by rfl) ?_)
    | (refine s1_call ?_; (refine sc_c (by rfl) (C_call (by rfl) (by infer_instance) (by rfl) (by rfl) (medium_is' m v _ (by infer_instance) hv2)) (by rfl) ?_; rintro _ _ ⟨rfl, rfl⟩))
    | (refine s1_indexAddr ?_; refine sc_r (R_indexAddr_arr (by rfl) (by rfl) (by omega)) (by rfl) ?_)
    | (refine s1_any ?_; first | refine sc_r (R_not (by rfl)) (by rfl) ?_ | refine sc_r (R_nilCheck (by rfl)) (by rfl) ?_)
    | refine swl_nil ?_
    | refine sx_next ?_
    | refine sw_seq ?_
    | refine sw_region ?_
    | refine sw_cond_false (by rfl) ?_
    | refine sw_ret ?_
    | refine sw_skip ?_
    | fail)
    refine sx_ret_of (res1 rfl (ResOne.tmp rfl)) _ ⟨rfl, rfl⟩ (Ent.trans ?_ (med_close h2 (sv := .slice pv vs.length cv)))
    (repeat (first | exact Ent.refl _ | exact Ent.nil | (apply Ent.pick; focus ((repeat (first | exact Rem.here | apply Rem.there)); done)) | apply Ent.drop))
  · have hv2 : decide (0 ≤ v ∧ v < (vs.length : Int)) = false := by simpa using hv
    rw [if_neg hv]
    repeat' (first
    | refine swl_op ?_
    | (refine s1_move ?_; refine sc_r (R_move (by rfl)) (by rfl) ?_)
    | (refine s1_assign ?_; refine sc_r (R_assign (by rfl)) (by rfl) ?_)
    | (refine s1_call ?_; (refine sc_c (by rfl) (C_call (by rfl) (by infer_instance) (by rfl) (by rfl) (medium_is' m v _ (by infer_instance) hv2)) (by rfl) ?_; rintro _ _ ⟨rfl, rfl⟩))
    | (refine s1_any ?_; refine sc_r (R_not (by rfl)) (by rfl) ?_)
    | refine swl_nil ?_
    | refine sx_next ?_
    | refine sw_seq ?_
    | refine sw_region ?_
    | refine sx_past_ret ?_
    | refine sw_cond_true (by rfl) ?_
    | refine sw_ret ?_
    | fail)
    refine sx_ret_of (res1 rfl (ResOne.tmp rfl)) _ ⟨rfl, rfl⟩ (Ent.trans ?_ (med_close h2 (sv := .slice pv vs.length cv)))
    (repeat (first | exact Ent.refl _ | exact Ent.nil | (apply Ent.pick; focus ((repeat (first | exact Rem.here | apply Rem.there)); done)) | apply Ent.drop))

def blankR (s : DevS) : Nat → Int × Int
  | 0 => (0, 0)
  | k + 1 => if rdE s ((k + 1 : Nat) : Int) = 0 then (if clearF (rdB s ((k + 1 : Nat) : Int)) 0 then blankR s k else ((k : Int) / 16 + 1, 0)) else (0, rdE s ((k + 1 : Nat) : Int))
def blMR (vl : List (Nat × DevS)) (v : Int) : Int × Int := if h : 0 ≤ v ∧ v < (vl.length : Int) then blankR (vl[v.toNat]'(by omega)).2 ((vl[v.toNat]'(by omega)).2.blocks.length - 1) else (0, 4)
set_option maxHeartbeats 1000000 in
theorem medium_Blank (m d : Nat) (g : Geo) (gens : List Int) (vl : List (Nat × DevS)) (v : Int) (h0 : ∀ x ∈ vl, x.2.blocks.length ≤ 8192 ∧ 0 < x.2.blocks.length) {F : List HP} :
    Tr Tryd.prog 42 [.pointer (some ⟨m, 0, none⟩), .int .i64 v].toArray (medP m d (vl.map Prod.fst) g gens :: devsP vl :: F)
      (fun r L' => r = .tuple #[.int .i64 (blMR vl v).1, .int .i64 (blMR vl v).2] ∧ L' = medP m d (vl.map Prod.fst) g gens :: devsP vl :: F) := by
  refine Tr.open_med fun pv cv h1 h2 => ?_
  refine tr_enter Tryd.func42 rfl Tryd.ntmps42 rfl fun w0 => ?_
  unfold blMR
  by_cases hv : 0 ≤ v ∧ v < (vl.length : Int)
  · have hv2 : decide (0 ≤ v ∧ v < ((vl.map Prod.fst).length : Int)) = true := by rw [List.length_map]; simpa using hv
    rw [dif_pos hv]
    have hi : v.toNat < vl.length := by omega
    have hll : (vl.map Prod.fst).length = vl.length := by simp
    obtain ⟨b1, o1, rfl⟩ := h1.ptr (by omega)
    have he1 : ((vl.map Prod.fst).map ptrc).getD v.toNat #[] = #[.pointer (some ⟨vl[v.toNat].1, 0, none⟩)] := by rw [ptr_get (by omega)]; simp
    have hbl := h0 vl[v.toNat] (List.getElem_mem hi)
    have hsame := fun (F : List HP) => devs_same vl v.toNat hi (F := F)
    repeat' (first
    | refine swl_op ?_
    | (refine s1_move ?_; refine sc_r (R_move (by rfl)) (by rfl) ?_)
    | (refine s1_load ?_; first | refine sc_r (L_load' (by rfl) (by infer_instance) (by rfl)) (by rfl) ?_ | refine sc_r (L_load_el1 (by rfl) (by infer_instance) (by omega) (by first | assumption | rfl)) (by rfl) ?_)
    | (refine s1_fieldAddr ?_; refine sc_r (R_fieldAddr (by rfl)) (by rfl) ?_)
    | (refine s1_assign ?_; refine sc_r (R_assign (by rfl)) (by rfl) ?_)
    | (refine s1_bin ?_; refine sc_r (R_sub64 (by rfl) (by rfl) (by omega)) (by rfl) ?_)
    | (refine s1_call ?_; first | (refine sc_c (by rfl) (C_call (by rfl) (by infer_instance) (by rfl) (by rfl) (medium_is' m v _ (by infer_instance) hv2)) (by rfl) ?_; rintro _ _ ⟨rfl, rfl⟩) | (refine sc_c (by rfl) (C_call (by rfl) (by infer_instance) (by rfl) (by rfl) (Tr.ent (Ent.trans (Ent.pick (by focus ((repeat (first | exact Rem.here | apply Rem.there)); done)) (Ent.refl _)) (devs_cut vl v.toNat hi)) (dev_Size vl[v.toNat].1 vl[v.toNat].2))) (by rfl) ?_; rintro _ _ ⟨rfl, rfl⟩))
    | (refine s1_indexAddr ?_; refine sc_r (R_indexAddr (by rfl) (by rfl) (by omega)) (by rfl) ?_)
    | (refine s1_any ?_; first | refine sc_r (R_not (by rfl)) (by rfl) ?_ | refine sc_r (R_nilCheck (by rfl)) (by rfl) ?_)
    | refine swl_nil ?_
    | refine sx_next ?_
    | refine sw_seq ?_
    | refine sw_region ?_
    | refine sw_block ?_
    | refine sw_cond_false (by rfl) ?_
    | refine sw_skip ?_
    | fail)
    generalize hA : vl[v.toNat].1 = A at *
    generalize hS : vl[v.toNat].2 = S at *
    refine sw_loop (γ := Nat) (fun k => k) (fun k => [(6, .pointer (some ⟨A, 0, none⟩)), (7, .int .i64 k)]) (fun _ => devP A S :: devsP (vl.take v.toNat) :: devsP (vl.drop (v.toNat + 1)) :: pt m (.cells (medCells g d (.slice (some ⟨b1, o1, none⟩) (vl.map Prod.fst).length cv) gens) 108) :: vec 58 1 ((vl.map Prod.fst).map ptrc) (.slice (some ⟨b1, o1, none⟩) (vl.map Prod.fst).length cv) :: F)
      (fun k => k ≤ 8192 ∧ blankR S (S.blocks.length - 1) = blankR S k) (S.blocks.length - 1) ⟨by omega, rfl⟩ (subE.cons rfl (subE.cons (by refine congrArg (fun z => some (Value.int .i64 z)) ?_; omega) subE.nil)) (by (repeat (first | exact Ent.refl _ | exact Ent.nil | (apply Ent.pick; focus ((repeat (first | exact Rem.here | apply Rem.there)); done)) | apply Ent.drop))) ?_
    intro k ⟨hk, hbk⟩
    have hfin : ∀ (X : List HP), Ent X (pt m (.cells (medCells g d (.slice (some ⟨b1, o1, none⟩) (vl.map Prod.fst).length cv) gens) 108) :: vec 58 1 ((vl.map Prod.fst).map ptrc) (.slice (some ⟨b1, o1, none⟩) (vl.map Prod.fst).length cv) :: devP A S :: devsP (vl.take v.toNat) :: devsP (vl.drop (v.toNat + 1)) :: F) → Ent X (medP m d (vl.map Prod.fst) g gens :: devsP vl :: F) := fun X h =>
      (h.trans (med_close h2)).trans (Ent.cons (hsame F))
    rcases k with _ | k
    · rw [hbk]
      repeat' (first
    | refine swl_op ?_
    | (refine s1_move ?_; refine sc_r (R_move (by rfl)) (by rfl) ?_)
    | (refine s1_assign ?_; refine sc_r (R_assign (by rfl)) (by rfl) ?_)
    | (refine s1_bin ?_; refine sc_r (R_geq (by rfl) (by rfl)) (by rfl) ?_)
    | refine swl_nil ?_
    | refine sx_next ?_
    | refine sw_seq ?_
    | refine sw_region ?_
    | refine sx_past_exit ?_
    | refine sx_block_here ?_
    | refine sw_cond_false (by rfl) ?_
    | refine sw_ret ?_
    | refine sw_exit ?_
    | fail)
      exact sx_ret_of (res2 rfl (ResOne.tmp rfl) (ResOne.tmp rfl)) _ ⟨rfl, rfl⟩ (hfin _ (by (repeat (first | exact Ent.refl _ | exact Ent.nil | (apply Ent.pick; focus ((repeat (first | exact Rem.here | apply Rem.there)); done)) | apply Ent.drop))))
    · have hR := fun (L : List HP) => dev_Read A S ((k + 1 : Nat) : Int) (L := L)
      rw [hbk]
      simp only [blankR]
      by_cases hr : rdE S ((k + 1 : Nat) : Int) = 0
      · rw [if_pos hr]
        rw [hr] at hR
        cases hc : clearF (rdB S ((k + 1 : Nat) : Int)) 0
        · rw [if_neg (by simp)]
          repeat' (first
    | refine swl_op ?_
    | (refine s1_move ?_; refine sc_r (R_move (by rfl)) (by rfl) ?_)
    | (refine s1_assign ?_; refine sc_r (R_assign (by rfl)) (by rfl) ?_)
    | (refine s1_bin ?_; first | refine sc_r (R_add64 (by rfl) (by rfl) (by omega)) (by rfl) ?_ | refine sc_r (R_geq (by rfl) (by rfl)) (by rfl) ?_ | refine sc_r (R_neq (by rfl) (by rfl)) (by rfl) ?_ | refine sc_r (R_sub64 (by rfl) (by rfl) (by omega)) (by rfl) ?_ | refine sc_r (R_quo64 (by rfl) (by rfl) (by omega)) (by rfl) ?_)
    | (refine s1_call ?_; first | (refine sc_c (by rfl) (C_call (by rfl) (by infer_instance) (by rfl) (by rfl) (Tr.ent (Ent.pick (by focus ((repeat (first | exact Rem.here | apply Rem.there)); done)) (Ent.refl _)) (hR _))) (by rfl) ?_; rintro _ _ ⟨sl, rfl, rfl⟩; refine swl_know (fun h H => vec_fact H) ?_; rintro ⟨pc, cc, rfl, hf⟩; rw [List.length_map] at hf ⊢) | (refine sc_c (by rfl) (C_call (by rfl) (by infer_instance) (by rfl) (by rfl) (pack_Clear' _ _ _ hc (by infer_instance))) (by rfl) ?_; rintro _ _ ⟨rfl, rfl⟩))
    | (refine s1_any ?_; first | refine sc_r (R_not (by rfl)) (by rfl) ?_ | refine sc_r (R_extract (by rfl) (by rfl)) (by rfl) ?_)
    | refine swl_nil ?_
    | refine sx_next ?_
    | refine sw_seq ?_
    | refine sw_region ?_
    | refine sw_block ?_
    | refine sx_past_ret ?_
    | refine sx_block_ret ?_
    | refine sw_cond_true (by rfl) ?_
    | refine sw_cond_false (by rfl) ?_
    | refine sw_cond_pos (by rfl) (by first | assumption | omega) ?_
    | refine sw_ret ?_
    | refine sw_skip ?_
    | fail)
          refine sx_ret_of (res2 rfl (ResOne.tmp rfl) (ResOne.tmp rfl)) _ ⟨?_, rfl⟩ (hfin _ (by (repeat (first | exact Ent.refl _ | exact Ent.nil | (apply Ent.pick; focus ((repeat (first | exact Rem.here | apply Rem.there)); done)) | apply Ent.drop))))
          rw [show ((k + 1 : Nat) : Int) - 1 = (k : Int) by omega]
        · rw [if_pos rfl]
          repeat' (first
    | refine swl_op ?_
    | (refine s1_move ?_; refine sc_r (R_move (by rfl)) (by rfl) ?_)
    | (refine s1_assign ?_; refine sc_r (R_assign (by rfl)) (by rfl) ?_)
    | (refine s1_bin ?_; first | refine sc_r (R_geq (by rfl) (by rfl)) (by rfl) ?_ | refine sc_r (R_neq (by rfl) (by rfl)) (by rfl) ?_ | refine sc_r (R_sub64 (by rfl) (by rfl) (by omega)) (by rfl) ?_)
    | (refine s1_call ?_; first | (refine sc_c (by rfl) (C_call (by rfl) (by infer_instance) (by rfl) (by rfl) (Tr.ent (Ent.pick (by focus ((repeat (first | exact Rem.here | apply Rem.there)); done)) (Ent.refl _)) (hR _))) (by rfl) ?_; rintro _ _ ⟨sl, rfl, rfl⟩; refine swl_know (fun h H => vec_fact H) ?_; rintro ⟨pc, cc, rfl, hf⟩; rw [List.length_map] at hf ⊢) | (refine sc_c (by rfl) (C_call (by rfl) (by infer_instance) (by rfl) (by rfl) (pack_Clear' _ _ _ hc (by infer_instance))) (by rfl) ?_; rintro _ _ ⟨rfl, rfl⟩))
    | (refine s1_any ?_; first | refine sc_r (R_not (by rfl)) (by rfl) ?_ | refine sc_r (R_extract (by rfl) (by rfl)) (by rfl) ?_)
    | refine swl_nil ?_
    | refine sx_next ?_
    | refine sw_seq ?_
    | refine sw_region ?_
    | refine sw_block ?_
    | refine sx_block_normal ?_
    | refine sw_cond_false (by rfl) ?_
    | refine sw_cond_pos (by rfl) (by first | assumption | omega) ?_
    | refine sw_skip ?_
    | fail)
          refine sx_back k (by omega) ⟨by omega, rfl⟩ (subE.cons rfl (subE.cons (by refine congrArg (fun z => some (Value.int .i64 z)) ?_; omega) subE.nil)) (by (repeat (first | exact Ent.refl _ | exact Ent.nil | (apply Ent.pick; focus ((repeat (first | exact Rem.here | apply Rem.there)); done)) | apply Ent.drop)))
      · rw [if_neg hr]
        repeat' (first
    | refine swl_op ?_
    | (refine s1_move ?_; refine sc_r (R_move (by rfl)) (by rfl) ?_)
    | (refine s1_assign ?_; refine sc_r (R_assign (by rfl)) (by rfl) ?_)
    | (refine s1_bin ?_; first | refine sc_r (R_geq (by rfl) (by rfl)) (by rfl) ?_ | refine sc_r (R_neq (by rfl) (by rfl)) (by rfl) ?_)
    | (refine s1_call ?_; (refine sc_c (by rfl) (C_call (by rfl) (by infer_instance) (by rfl) (by rfl) (Tr.ent (Ent.pick (by focus ((repeat (first | exact Rem.here | apply Rem.there)); done)) (Ent.refl _)) (hR _))) (by rfl) ?_; rintro _ _ ⟨sl, rfl, rfl⟩; refine swl_know (fun h H => vec_fact H) ?_; rintro ⟨pc, cc, rfl, hf⟩; rw [List.length_map] at hf ⊢))
    | (refine s1_any ?_; refine sc_r (R_extract (by rfl) (by rfl)) (by rfl) ?_)
    | refine swl_nil ?_
    | refine sx_next ?_
    | refine sw_seq ?_
    | refine sw_region ?_
    | refine sw_block ?_
    | refine sx_past_ret ?_
    | refine sx_block_ret ?_
    | refine sw_cond_pos (by rfl) (by first | assumption | omega) ?_
    | refine sw_cond_nneg (by rfl) (by first | assumption | omega) ?_
    | refine sw_ret ?_
    | refine sw_skip ?_
    | fail)
        exact sx_ret_of (res2 rfl (ResOne.tmp rfl) (ResOne.tmp rfl)) _ ⟨rfl, rfl⟩ (hfin _ (by (repeat (first | exact Ent.refl _ | exact Ent.nil | (apply Ent.pick; focus ((repeat (first | exact Rem.here | apply Rem.there)); done)) | apply Ent.drop))))
  · have hv2 : decide (0 ≤ v ∧ v < ((vl.map Prod.fst).length : Int)) = false := by rw [List.length_map]; simpa using hv
    rw [dif_neg hv]
    repeat' (first
    | refine swl_op ?_
    | (refine s1_move ?_; refine sc_r (R_move (by rfl)) (by rfl) ?_)
    | (refine s1_assign ?_; refine sc_r (R_assign (by rfl)) (by rfl) ?_)
    | (refine s1_call ?_; (refine sc_c (by rfl) (C_call (by rfl) (by infer_instance) (by rfl) (by rfl) (medium_is' m v _ (by infer_instance) hv2)) (by rfl) ?_; rintro _ _ ⟨rfl, rfl⟩))
    | (refine s1_any ?_; refine sc_r (R_not (by rfl)) (by rfl) ?_)
    | refine swl_nil ?_
    | refine sx_next ?_
    | refine sw_seq ?_
    | refine sw_region ?_
    | refine sx_past_ret ?_
    | refine sw_cond_true (by rfl) ?_
    | refine sw_ret ?_
    | fail)
    refine sx_ret_of (res2 rfl (ResOne.tmp rfl) (ResOne.tmp rfl)) _ ⟨rfl, rfl⟩ (Ent.trans ?_ (med_close h2 (sv := .slice pv (vl.map Prod.fst).length cv)))
    (repeat (first | exact Ent.refl _ | exact Ent.nil | (apply Ent.pick; focus ((repeat (first | exact Rem.here | apply Rem.there)); done)) | apply Ent.drop))
end Go.Proofs.YtjdnflhejfcgdaaDoor

/-
  Media: of what devices; put together.
-/
namespace Go.Proofs.YtjdnflhejfcgdaaDoor
open Go Go.SL Go.Proofs

def genLab (vol : Int) (s : DevS) : Int := if rdE s 0 = 0 then (if (readLabelF (rdB s 0)).2.2 = 0 ∧ (readLabelF (rdB s 0)).1 = vol then (readLabelF (rdB s 0)).2.1 else -1) else -1
theorem devs_Size (vl : List (Nat × DevS)) (i : Nat) (h : i < vl.length) {F : List HP} : Tr Tryd.prog 81 [.pointer (some ⟨vl[i].1, 0, none⟩)].toArray (devsP vl :: F) (fun v L' => v = .int .i64 vl[i].2.blocks.length ∧ L' = devsP vl :: F) :=
  (Tr.ent (devs_cut vl i h) (dev_Size vl[i].1 vl[i].2)).weaken fun v L' ⟨h1, h2⟩ => ⟨_, by rw [h2]; exact devs_same vl i h, h1, rfl⟩

def fitsF (g : Geo) (s : DevS) (vl : List (Nat × DevS)) : Bool := decide ((s.blocks.length : Int) = 16 + g.disk * 16 ∧ (vl.length : Int) = g.vols) && vl.all fun x => decide ((x.2.blocks.length : Int) = 1 + g.segs * 16)
set_option maxHeartbeats 1000000 in
theorem medium_fits (g : Geo) (hm : mayG g = true) (d : Nat) (s : DevS) (vl : List (Nat × DevS)) {pv : Option Addr} {nv cv : Nat} {F : List HP} (hv : SlC F pv 1 nv cv ((vl.map Prod.fst).map ptrc)) :
    Tr Tryd.prog 46 [.agg g.cells, .pointer (some ⟨d, 0, none⟩), .slice pv nv cv].toArray (devP d s :: devsP vl :: F) (fun v L' => v = .bool (fitsF g s vl) ∧ L' = devP d s :: devsP vl :: F) := by
  have hlen : vl.length = nv := by simpa using hv.len
  have hg := mayG_is hm
  have hbd := hv.bd
  refine tr_enter Tryd.func46 rfl Tryd.ntmps46 rfl fun w0 => ?_
  unfold fitsF Geo.cells
  repeat' (first
    | refine swl_op ?_
    | (refine s1_move ?_; refine sc_r (R_move (by rfl)) (by rfl) ?_)
    | (refine s1_load ?_; refine sc_r (L_load' (by rfl) (by infer_instance) (by rfl)) (by rfl) ?_)
    | (refine s1_fieldAddr ?_; refine sc_r (R_fieldAddr (by rfl)) (by rfl) ?_)
    | (refine s1_assign ?_; refine sc_r (R_assign (by rfl)) (by rfl) ?_)
    | (refine s1_pick ?_; first | refine sc_r (R_pick_t (by rfl) (by rfl)) (by rfl) ?_ | refine sc_r (R_pick_f (by rfl) (by rfl)) (by rfl) ?_)
    | (refine s1_bin ?_; first | refine sc_r (R_add64 (by rfl) (by rfl) (by omega)) (by rfl) ?_ | refine sc_r (R_neq (by rfl) (by rfl)) (by rfl) ?_ | refine sc_r (R_mul64 (by rfl) (by rfl) (by first | assumption | omega)) (by rfl) ?_)
    | (refine s1_call ?_; first | (refine sc_c (by rfl) (C_call (by rfl) (by infer_instance) (by rfl) (by rfl) (Tr.ent (Ent.pick (by focus ((repeat (first | exact Rem.here | apply Rem.there)); done)) (Ent.refl _)) (dev_Size d s))) (by rfl) ?_; rintro _ _ ⟨rfl, rfl⟩) | refine sc_r (R_len (by rfl)) (by rfl) ?_)
    | (refine s1_box ?_; (refine sc_w (by rfl) (W_boxA (by rfl)) (by rfl) ?_; rintro _ _ ⟨_, rfl, rfl⟩))
    | refine swl_nil ?_
    | refine sx_next ?_
    | refine sw_seq ?_
    | refine sw_region ?_
    | refine sw_block ?_
    | refine sx_past_ret ?_
    | refine sw_cond_true (by rfl) ?_
    | refine sw_cond_not (by rfl) (fun hp => ?_) (fun hp => ?_)
    | refine sw_ret ?_
    | refine sw_skip ?_
    | refine swh_lt (by rfl) (fun _ _ => wanted_none) ?_
    | refine swh_lt (by rfl) (wanted_on (by rfl) (by rfl)) ?_
    | refine swh_off (by rfl) (by rfl) (by rfl) (by rfl) (by rfl) ?_
    | refine swh_hv (by rfl) (fun _ _ => wanted_none) ?_
    | refine swh_g_ndec (by rfl) (by rfl) (by rfl) (fun hp => ?_) (fun hp => ?_)
    | refine swh_nil ?_
    | (apply And.intro; focus ((repeat (first | exact Ent.refl _ | exact Ent.nil | (apply Ent.pick; focus ((repeat (first | exact Rem.here | apply Rem.there)); done)) | apply Ent.drop)); done))
    | (refine sw_draw [(0, true), (2, true), (3, true), (4, true), (5, true), (1, false), (6, true), (7, true), (8, true), (9, true), (10, true), (11, true), (12, true), (13, true)] follows ?_ ?_ ?_; (focus rfl); (focus (decide +kernel)))
    | fail)
  · refine sx_ret_of (res1 rfl (ResOne.tmp rfl)) _ ⟨?_, rfl⟩ (by (repeat (first | exact Ent.refl _ | exact Ent.nil | (apply Ent.pick; focus ((repeat (first | exact Rem.here | apply Rem.there)); done)) | apply Ent.drop)))
    simp [hp]
  · refine sx_ret_of (res1 rfl (ResOne.tmp rfl)) _ ⟨?_, rfl⟩ (by (repeat (first | exact Ent.refl _ | exact Ent.nil | (apply Ent.pick; focus ((repeat (first | exact Rem.here | apply Rem.there)); done)) | apply Ent.drop)))
    simp [hlen, hp]
  rename_i b3 hps
  refine sw_loop (γ := Nat) (fun k => nv - k) (fun k => [(3, .pointer (some ⟨b3, 0, none⟩)), (23, .slice pv nv cv), (24, .int .i64 nv), (25, .int .i64 k)]) (fun _ => devP d s :: pt b3 (.cells #[.int .i64 g.disk, .int .i64 g.lines, .int .i64 g.vols, .int .i64 g.segs] 46) :: devsP vl :: F)
    (fun k => k ≤ nv ∧ ∀ x ∈ vl.take k, (x.2.blocks.length : Int) = 1 + g.segs * 16) 0 ⟨by omega, by simp⟩ (subE.cons rfl (subE.cons rfl (subE.cons rfl (subE.cons rfl subE.nil)))) (by (repeat (first | exact Ent.refl _ | exact Ent.nil | (apply Ent.pick; focus ((repeat (first | exact Rem.here | apply Rem.there)); done)) | apply Ent.drop))) ?_
  intro k ⟨hk, hall⟩
  by_cases hlt : k < nv
  · obtain ⟨b1, o1, rfl⟩ := hv.ptr (by omega)
    have hi : k < vl.length := by omega
    have he1 : ((vl.map Prod.fst).map ptrc).getD k #[] = #[.pointer (some ⟨vl[k].1, 0, none⟩)] := by rw [ptr_get (by simpa using hi)]; simp
    have hts := List.take_succ_eq_append_getElem hi
    repeat' (first
    | refine swl_op ?_
    | (refine s1_move ?_; refine sc_r (R_move (by rfl)) (by rfl) ?_)
    | (refine s1_load ?_; first | refine sc_r (L_load' (by rfl) (by infer_instance) (by rfl)) (by rfl) ?_ | refine sc_r (L_load_el1 (by rfl) (by infer_instance) (by omega) (by first | assumption | rfl)) (by rfl) ?_)
    | (refine s1_fieldAddr ?_; refine sc_r (R_fieldAddr (by rfl)) (by rfl) ?_)
    | (refine s1_assign ?_; refine sc_r (R_assign (by rfl)) (by rfl) ?_)
    | (refine s1_bin ?_; first | refine sc_r (R_lss (by rfl) (by rfl)) (by rfl) ?_ | refine sc_r (R_add64 (by rfl) (by rfl) (by omega)) (by rfl) ?_ | refine sc_r (R_neq (by rfl) (by rfl)) (by rfl) ?_ | refine sc_r (R_mul64 (by rfl) (by rfl) (by first | assumption | omega)) (by rfl) ?_)
    | (refine s1_call ?_; (refine sc_c (by rfl) (C_call (by rfl) (by infer_instance) (by rfl) (by rfl) (Tr.ent (Ent.pick (by focus ((repeat (first | exact Rem.here | apply Rem.there)); done)) (Ent.refl _)) (devs_Size vl k hi))) (by rfl) ?_; rintro _ _ ⟨rfl, rfl⟩))
    | (refine s1_indexAddr ?_; refine sc_r (R_indexAddr (by rfl) (by rfl) (by omega)) (by rfl) ?_)
    | refine swl_nil ?_
    | refine sx_next ?_
    | refine sw_seq ?_
    | refine sw_region ?_
    | refine sw_block ?_
    | refine sx_past_ret ?_
    | refine sx_block_normal ?_
    | refine sx_block_ret ?_
    | refine sw_cond_pos (by rfl) (by first | assumption | omega) ?_
    | refine sw_cond_not (by rfl) (fun hp => ?_) (fun hp => ?_)
    | refine sw_ret ?_
    | refine sw_skip ?_
    | refine swh_lt (by rfl) (fun _ _ => wanted_none) ?_
    | refine swh_hv (by rfl) (fun _ _ => wanted_none) ?_
    | refine swh_nil ?_
    | (apply And.intro; focus ((repeat (first | exact Ent.refl _ | exact Ent.nil | (apply Ent.pick; focus ((repeat (first | exact Rem.here | apply Rem.there)); done)) | apply Ent.drop)); done))
    | (refine sw_draw [(0, true), (2, true), (3, true), (4, true), (5, true), (1, false), (6, true)] follows ?_ ?_ ?_; (focus rfl); (focus (decide +kernel)))
    | fail)
    --DBG
    · refine sx_ret_of (res1 rfl (ResOne.tmp rfl)) _ ⟨?_, rfl⟩ (by (repeat (first | exact Ent.refl _ | exact Ent.nil | (apply Ent.pick; focus ((repeat (first | exact Rem.here | apply Rem.there)); done)) | apply Ent.drop)))
      have : (vl.all fun x => decide ((x.2.blocks.length : Int) = 1 + g.segs * 16)) = false := by
        rw [List.all_eq_false]
        exact ⟨vl[k], List.getElem_mem hi, by simpa using hp⟩
      rw [this, Bool.and_false]
    · refine sx_back (k + 1) (by omega) ⟨by omega, fun x hx => ?_⟩ (subE.cons rfl (subE.cons rfl (subE.cons rfl (subE.cons rfl subE.nil)))) (by (repeat (first | exact Ent.refl _ | exact Ent.nil | (apply Ent.pick; focus ((repeat (first | exact Rem.here | apply Rem.there)); done)) | apply Ent.drop)))
      rw [hts] at hx
      rcases List.mem_append.1 hx with hx | hx
      · exact hall x hx
      · rw [List.mem_singleton.1 hx]; exact hp
  · rw [List.take_of_length_le (by omega)] at hall
    repeat' (first
    | refine swl_op ?_
    | (refine s1_assign ?_; refine sc_r (R_assign (by rfl)) (by rfl) ?_)
    | (refine s1_bin ?_; refine sc_r (R_lss (by rfl) (by rfl)) (by rfl) ?_)
    | refine swl_nil ?_
    | refine sx_next ?_
    | refine sw_seq ?_
    | refine sw_region ?_
    | refine sx_past_exit ?_
    | refine sx_block_here ?_
    | refine sw_cond_neg (by rfl) (by first | assumption | omega) ?_
    | refine sw_ret ?_
    | refine sw_exit ?_
    | fail)
    refine sx_ret_of (res1 rfl (ResOne.tmp rfl)) _ ⟨?_, rfl⟩ (by (repeat (first | exact Ent.refl _ | exact Ent.nil | (apply Ent.pick; focus ((repeat (first | exact Rem.here | apply Rem.there)); done)) | apply Ent.drop)))
    have h1 : (vl.all fun x => decide ((x.2.blocks.length : Int) = 1 + g.segs * 16)) = true := by
      rw [List.all_eq_true]
      exact fun x hx => by simpa using hall x hx
    rw [h1, Bool.and_true, decide_eq_true ⟨by assumption, by omega⟩]
end Go.Proofs.YtjdnflhejfcgdaaDoor

/-
  Media: put together.
-/
namespace Go.Proofs.YtjdnflhejfcgdaaDoor
open Go Go.SL Go.Proofs

theorem medCells_size (g : Geo) (d : Nat) (sv : Value) (gens : List Int) : (medCells g d sv gens).size = 6 + gens.length := by simp [medCells]; omega
set_option maxHeartbeats 1000000 in
theorem medium_combine (g : Geo) (hm : mayG g = true) (d : Nat) (vs : List Nat) (hn : (vs.length : Int) = g.vols) {pv : Option Addr} {nv cv : Nat} {F : List HP} (hv : SlC F pv 1 nv cv (vs.map ptrc)) :
    Tr Tryd.prog 52 [.agg g.cells, .pointer (some ⟨d, 0, none⟩), .slice pv nv cv].toArray F (fun v L' => ∃ m, v = .pointer (some ⟨m, 0, none⟩) ∧ L' = medP m d vs g (List.replicate 8 (-1)) :: F) := by
  have hlen : vs.length = nv := by simpa using hv.len
  have hg := mayG_is hm
  refine tr_enter Tryd.func52 rfl Tryd.ntmps52 rfl fun w0 => ?_
  unfold Geo.cells
  repeat' (first
    | refine swl_op ?_
    | (refine s1_assign ?_; refine sc_r (R_assign (by rfl)) (by rfl) ?_)
    | (refine s1_box ?_; (refine sc_w (by rfl) (W_boxA (by rfl)) (by rfl) ?_; rintro _ _ ⟨_, rfl, rfl⟩))
    | refine swl_nil ?_
    | refine sx_next ?_
    | refine sw_seq ?_
    | refine sw_region ?_
    | fail)
  rename_i b3
  refine sw_ent (Ent.vec_nil (e := 58) (k := 1)) ?_
  repeat' (first
    | refine swl_op ?_
    | (refine s1_move ?_; refine sc_r (R_move (by rfl)) (by rfl) ?_)
    | (refine s1_load ?_; refine sc_r (L_load_all (by rfl) (by infer_instance) (by rfl)) (by rfl) ?_)
    | (refine s1_assign ?_; refine sc_r (R_assign (by rfl)) (by rfl) ?_)
    | (refine s1_call ?_; (refine sc_w (by rfl) (W_appendA (by rfl) (by rfl) (by focus ((repeat (first | exact Rem.here | apply Rem.there)); done)) (by infer_instance) (by intro x hx; obtain ⟨z, _, rfl⟩ := List.mem_map.1 hx; rfl) (by intro x hx u hu; obtain ⟨z, _, rfl⟩ := List.mem_map.1 hx; obtain rfl := List.mem_singleton.1 hu; rfl) (by simp; omega)) (by rfl) ?_; rintro vv _ rfl; refine ⟨by (repeat (first | exact Ent.refl _ | exact Ent.nil | (apply Ent.pick; focus ((repeat (first | exact Rem.here | apply Rem.there)); done)) | apply Ent.drop)), ?_⟩; refine swh_know (fun h H => vec_fact H) ?_; rintro ⟨pw, cw, rfl, hw⟩))
    | (refine s1_box ?_; (refine sc_w (by rfl) (W_boxA (by rfl)) (by rfl) ?_; rintro _ _ ⟨_, rfl, rfl⟩))
    | (refine s1_any ?_; refine sc_r (R_buildL (by rfl) (by rfl)) (by rfl) ?_)
    | refine swl_nil ?_
    | refine sx_next ?_
    | refine sw_seq ?_
    | refine sw_region ?_
    | refine sw_block ?_
    | refine swh_lt (by rfl) (fun _ _ => wanted_none) ?_
    | refine swh_hv (by rfl) (fun _ _ => wanted_none) ?_
    | refine swh_nil ?_
    | (apply And.intro; focus ((repeat (first | exact Ent.refl _ | exact Ent.nil | (apply Ent.pick; focus ((repeat (first | exact Rem.here | apply Rem.there)); done)) | apply Ent.drop)); done))
    | (refine sw_region_draw (pt b3 (.cells #[.int .i64 g.disk, .int .i64 g.lines, .int .i64 g.vols, .int .i64 g.segs] 46) :: F) [(0, true), (1, true), (2, true), (3, false), (4, true), (5, false), (6, true)] follows ?_ ?_ ?_ ?_; (focus rfl); (focus (decide +kernel)); (focus ((repeat (first | exact Ent.refl _ | exact Ent.nil | (apply Ent.pick; focus ((repeat (first | exact Rem.here | apply Rem.there)); done)) | apply Ent.drop)); done)))
    | fail)
  rename_i m
  have hll : ([] ++ vs.map ptrc).length = vs.length := by simp
  have hset : ∀ i, i < 8 → (List.replicate i (-1) ++ List.replicate (8 - i) (0 : Int)).set i (-1) = List.replicate (i + 1) (-1) ++ List.replicate (8 - (i + 1)) 0 := by decide
  refine sw_loop (γ := Nat) (fun i => 8 - i) (fun i => [(7, .pointer (some ⟨m, 0, none⟩)), (15, .int .i64 i)]) (fun i => pt m (.cells (medCells g d (.slice pw ([] ++ vs.map ptrc).length cw) (List.replicate i (-1) ++ List.replicate (8 - i) 0)) 108) :: vec 58 1 ([] ++ vs.map ptrc) (.slice pw ([] ++ vs.map ptrc).length cw) :: F)
    (fun i => i ≤ 8) 0 (by omega) (subE.cons rfl (subE.cons rfl subE.nil)) (by (repeat (first | exact Ent.refl _ | exact Ent.nil | (apply Ent.pick; focus ((repeat (first | exact Rem.here | apply Rem.there)); done)) | apply Ent.drop))) ?_
  intro i hi
  by_cases hlt : i < 8
  · have hs8 := hset i hlt
    have hl8 : (List.replicate i (-1) ++ List.replicate (8 - i) (0 : Int)).length = 8 := by simp; omega
    generalize List.replicate i (-1) ++ List.replicate (8 - i) (0 : Int) = gens at *
    have hsz : 0 + 6 + i * 1 < (medCells g d (.slice pw ([] ++ vs.map ptrc).length cw) gens).size := by rw [medCells_size]; omega
    repeat' (first
    | refine swl_op ?_
    | (refine s1_move ?_; refine sc_r (R_move (by rfl)) (by rfl) ?_)
    | (refine s1_fieldAddr ?_; refine sc_r (R_fieldAddr (by rfl)) (by rfl) ?_)
    | (refine s1_assign ?_; refine sc_r (R_assign (by rfl)) (by rfl) ?_)
    | (refine s1_bin ?_; first | refine sc_r (R_lss (by rfl) (by rfl)) (by rfl) ?_ | refine sc_r (R_add64 (by rfl) (by rfl) (by omega)) (by rfl) ?_)
    | (refine s1_indexAddr ?_; refine sc_r (R_indexAddr_arr (by rfl) (by rfl) (by omega)) (by rfl) ?_)
    | (refine s1_store ?_; (refine sc_w (by rfl) (W_store1 (by rfl) (by rfl) (by infer_instance) (by rfl) (by assumption) (by rfl)) (by rfl) ?_; rintro _ _ ⟨rfl, rfl⟩))
    | (refine s1_any ?_; refine sc_r (R_nilCheck (by rfl)) (by rfl) ?_)
    | refine swl_nil ?_
    | refine sx_next ?_
    | refine sw_seq ?_
    | refine sw_region ?_
    | refine sw_block ?_
    | refine sx_block_normal ?_
    | refine sw_cond_pos (by rfl) (by first | assumption | omega) ?_
    | refine sw_skip ?_
    | fail)
    refine sx_back (i + 1) (by omega) (by omega) (subE.cons rfl (subE.cons rfl subE.nil)) ?_
    rw [← hs8, ← gens_set]
    (repeat (first | exact Ent.refl _ | exact Ent.nil | (apply Ent.pick; focus ((repeat (first | exact Rem.here | apply Rem.there)); done)) | apply Ent.drop))
  · obtain rfl : i = 8 := by omega
    repeat' (first
    | refine swl_op ?_
    | (refine s1_move ?_; refine sc_r (R_move (by rfl)) (by rfl) ?_)
    | (refine s1_assign ?_; refine sc_r (R_assign (by rfl)) (by rfl) ?_)
    | (refine s1_bin ?_; refine sc_r (R_lss (by rfl) (by rfl)) (by rfl) ?_)
    | refine swl_nil ?_
    | refine sx_next ?_
    | refine sw_seq ?_
    | refine sw_region ?_
    | refine sx_past_exit ?_
    | refine sx_block_here ?_
    | refine sw_cond_false (by rfl) ?_
    | refine sw_ret ?_
    | refine sw_exit ?_
    | fail)
    refine sx_ret_of (res1 rfl (ResOne.tmp rfl)) _ ⟨_, rfl, rfl⟩ (Ent.trans ?_ (med_close ⟨by simp, hn, hm, by simp⟩ (sv := .slice pw ([] ++ vs.map ptrc).length cw)))
    (repeat (first | exact Ent.refl _ | exact Ent.nil | (apply Ent.pick; focus ((repeat (first | exact Rem.here | apply Rem.there)); done)) | apply Ent.drop))
end Go.Proofs.YtjdnflhejfcgdaaDoor

/-
  Media: made, opened, renewed: the steps.
-/
namespace Go.Proofs.YtjdnflhejfcgdaaDoor
open Go Go.SL Go.Proofs

def fErase (a : Nat) : Value := .func (.func 49) #[.pointer (some ⟨a, 0, none⟩)] #[]
def fFlush (a : Nat) : Value := .func (.func 51) #[.pointer (some ⟨a, 0, none⟩)] #[]
def fWrite (x y z : Nat) : Value := .func (.func 87) #[] #[.pointer (some ⟨x, 0, none⟩), .pointer (some ⟨y, 0, none⟩), .pointer (some ⟨z, 0, none⟩)]
def erS (s : DevS) : DevS := if spE s = 0 then eraseS s else spendS s
theorem fnErase (a : Nat) (s : DevS) (F : List HP) : FnOK (fErase a) a F s (erS s) (spE s) := ⟨_, _, _, rfl, inferInstance, dev_Erase a s⟩
theorem fnFlush (a : Nat) (s : DevS) (F : List HP) : FnOK (fFlush a) a F s (flS s) (spE s) := ⟨_, _, _, rfl, inferInstance, dev_Flush a s⟩
theorem fnWrite (a : Nat) (s : DevS) (i : Int) (b : List Int) (hpn : s.pend.length ≤ 1000000000) (x y z : Nat) {p : Option Addr} {n c : Nat} {T1 T2 T3 : TypeId} {F : List HP} (hx : ReadC F x (.cells #[.pointer (some ⟨a, 0, none⟩)] T1)) (hy : ReadC F y (.cells #[.int .i64 i] T2)) (hz : ReadC F z (.cells #[.slice p n c] T3)) (hb : SlC F p 1 n c (b.map u8c)) :
    FnOK (fWrite x y z) a F s (wrS s i b) (wrE s i b.length) := ⟨_, _, _, rfl, inferInstance, medium_writing1 a s i b hpn x y z hx hy hz hb⟩
/-- written and flushed; what comes of it -/
def wfS (s : DevS) (i : Int) (b : List Int) : DevS := if wrE s i b.length = 0 then flS (wrS s i b) else wrS s i b
def wfE (s : DevS) (i : Int) (b : List Int) : Int := if wrE s i b.length = 0 then spE (wrS s i b) else wrE s i b.length
def ewfS (s : DevS) (b : List Int) : DevS := if spE s = 0 then wfS (eraseS s) 0 b else spendS s
def ewfE (s : DevS) (b : List Int) : Int := if spE s = 0 then wfE (eraseS s) 0 b else spE s
theorem steps_f (a : Nat) (s : DevS) (F : List HP) : StepsOK a F [fFlush a] s (flS s) (spE s) := by
  by_cases h : spE s = 0
  · have := fnFlush a s F
    rw [h] at this ⊢
    exact .next this .nil
  · exact .stop (fnFlush a s F) h
theorem steps_e (a : Nat) (s : DevS) (F : List HP) : StepsOK a F [fErase a] s (erS s) (spE s) := by
  by_cases h : spE s = 0
  · have := fnErase a s F
    rw [h] at this ⊢
    exact .next this .nil
  · exact .stop (fnErase a s F) h
theorem steps_wf (a : Nat) (s : DevS) (i : Int) (b : List Int) (hpn : s.pend.length ≤ 1000000000) (x y z : Nat) {p : Option Addr} {n c : Nat} {T1 T2 T3 : TypeId} {F : List HP} (hx : ReadC F x (.cells #[.pointer (some ⟨a, 0, none⟩)] T1)) (hy : ReadC F y (.cells #[.int .i64 i] T2)) (hz : ReadC F z (.cells #[.slice p n c] T3)) (hb : SlC F p 1 n c (b.map u8c)) :
    StepsOK a F [fWrite x y z, fFlush a] s (wfS s i b) (wfE s i b) := by
  have hw := fnWrite a s i b hpn x y z hx hy hz hb
  unfold wfS wfE
  by_cases h : wrE s i b.length = 0
  · rw [if_pos h, if_pos h]
    rw [h] at hw
    exact .next hw (steps_f a _ F)
  · rw [if_neg h, if_neg h]
    exact .stop hw h
theorem steps_ewf (a : Nat) (s : DevS) (b : List Int) (x y z : Nat) {p : Option Addr} {n c : Nat} {T1 T2 T3 : TypeId} {F : List HP} (hx : ReadC F x (.cells #[.pointer (some ⟨a, 0, none⟩)] T1)) (hy : ReadC F y (.cells #[.int .i64 0] T2)) (hz : ReadC F z (.cells #[.slice p n c] T3)) (hb : SlC F p 1 n c (b.map u8c)) :
    StepsOK a F [fErase a, fWrite x y z, fFlush a] s (ewfS s b) (ewfE s b) := by
  have he := fnErase a s F
  unfold ewfS ewfE erS at *
  by_cases h : spE s = 0
  · rw [if_pos h, if_pos h]
    rw [if_pos h, h] at he
    exact .next he (steps_wf a _ 0 b (by simp [eraseS]) x y z hx hy hz hb)
  · rw [if_neg h, if_neg h]
    rw [if_neg h] at he
    exact .stop he h

section
variable {P : Program} {w0 : World} {nt : Cx} {L : List HP} {env : Env} {Q : Exit → Act → World → Prop} {ops : Array Oper} {rest : List Oper}
theorem swl_open_med {m d : Nat} {vs : List Nat} {g : Geo} {gens : List Int} (h : ∀ pv cv, SlOK pv vs.length cv → MedOK g vs gens →
    SWL P w0 nt (pt m (.cells (medCells g d (.slice pv vs.length cv) gens) 108) :: vec 58 1 (vs.map ptrc) (.slice pv vs.length cv) :: L) env ops rest Q) : SWL P w0 nt (medP m d vs g gens :: L) env ops rest Q := .mk fun w a hs hr => by
  obtain ⟨pv, cv, h1, h2, H⟩ := medP_open hs.own
  exact (h pv cv h1 h2).h w a ⟨hs.os, hs.tape, hs.output, hs.size, hs.drawn, H⟩ hr
end

theorem addr_May_no (g : Geo) (h : mayG g = false) {L : List HP} : Tr Tryd.prog 36 [.agg g.cells].toArray L (fun v L' => v = .bool false ∧ L = L') := addr_May' g _ h
theorem medium_fits' (t : Bool) (g : Geo) (hm : mayG g = true) (d : Nat) (s : DevS) (vl : List (Nat × DevS)) (h : fitsF g s vl = t) {pv : Option Addr} {nv cv : Nat} {F : List HP} (hv : SlC F pv 1 nv cv ((vl.map Prod.fst).map ptrc)) :
    Tr Tryd.prog 46 [.agg g.cells, .pointer (some ⟨d, 0, none⟩), .slice pv nv cv].toArray (devP d s :: devsP vl :: F) (fun v L' => v = .bool t ∧ L' = devP d s :: devsP vl :: F) := h ▸ medium_fits g hm d s vl hv

theorem medium_Format_no (g : Geo) (d : Nat) (s : DevS) (vl : List (Nat × DevS)) (h : (mayG g && fitsF g s vl) = false) {pv : Option Addr} {nv cv : Nat} {F : List HP} (hv : SlC F pv 1 nv cv ((vl.map Prod.fst).map ptrc)) :
    Tr Tryd.prog 21 [.agg g.cells, .pointer (some ⟨d, 0, none⟩), .slice pv nv cv].toArray (devP d s :: devsP vl :: F) (fun v L' => v = .tuple #[.pointer none, .int .i64 1] ∧ L' = devP d s :: devsP vl :: F) := by
  refine tr_enter Tryd.func21 rfl Tryd.ntmps21 rfl fun w0 => ?_
  cases hm : mayG g
  · repeat' (first
    | refine swl_op ?_
    | (refine s1_move ?_; refine sc_r (R_move (by rfl)) (by rfl) ?_)
    | (refine s1_load ?_; refine sc_r (L_load_all (by rfl) (by infer_instance) (by rfl)) (by rfl) ?_)
    | (refine s1_assign ?_; refine sc_r (R_assign (by rfl)) (by rfl) ?_)
    | (refine s1_pick ?_; refine sc_r (R_pick_t (by rfl) (by rfl)) (by rfl) ?_)
    | (refine s1_call ?_; (refine sc_c (by rfl) (C_call (by rfl) (by infer_instance) (by rfl) (by rfl) (addr_May' g _ hm)) (by rfl) ?_; rintro _ _ ⟨rfl, rfl⟩))
    | (refine s1_box ?_; (refine sc_w (by rfl) (W_boxA (by rfl)) (by rfl) ?_; rintro _ _ ⟨_, rfl, rfl⟩))
    | (refine s1_any ?_; refine sc_r (R_not (by rfl)) (by rfl) ?_)
    | refine swl_nil ?_
    | refine sx_next ?_
    | refine sw_seq ?_
    | refine sw_region ?_
    | refine swl_g_off (by rfl) (by rfl) (by rfl) (by rfl) ?_
    | refine sx_past_ret ?_
    | refine sw_cond_true (by rfl) ?_
    | refine sw_ret ?_
    | fail)
    exact sx_ret_of (res2 rfl (ResOne.tmp rfl) (ResOne.tmp rfl)) _ ⟨rfl, rfl⟩ (by (repeat (first | exact Ent.refl _ | exact Ent.nil | (apply Ent.pick; focus ((repeat (first | exact Rem.here | apply Rem.there)); done)) | apply Ent.drop)))
  · rw [hm, Bool.true_and] at h
    repeat' (first
    | refine swl_op ?_
    | (refine s1_move ?_; refine sc_r (R_move (by rfl)) (by rfl) ?_)
    | (refine s1_load ?_; refine sc_r (L_load_all (by rfl) (by infer_instance) (by rfl)) (by rfl) ?_)
    | (refine s1_assign ?_; refine sc_r (R_assign (by rfl)) (by rfl) ?_)
    | (refine s1_pick ?_; refine sc_r (R_pick_f (by rfl) (by rfl)) (by rfl) ?_)
    | (refine s1_call ?_; first | (refine sc_c (by rfl) (C_call (by rfl) (by infer_instance) (by rfl) (by rfl) (addr_May' g _ hm)) (by rfl) ?_; rintro _ _ ⟨rfl, rfl⟩) | (refine sc_c (by rfl) (C_call (by rfl) (by infer_instance) (by rfl) (by rfl) (Tr.ent (Ent.pick (by focus ((repeat (first | exact Rem.here | apply Rem.there)); done)) (Ent.pick (by focus ((repeat (first | exact Rem.here | apply Rem.there)); done)) (Ent.refl _))) (medium_fits' false g hm d s vl h (by infer_instance)))) (by rfl) ?_; rintro _ _ ⟨rfl, rfl⟩))
    | (refine s1_box ?_; (refine sc_w (by rfl) (W_boxA (by rfl)) (by rfl) ?_; rintro _ _ ⟨_, rfl, rfl⟩))
    | (refine s1_any ?_; refine sc_r (R_not (by rfl)) (by rfl) ?_)
    | refine swl_nil ?_
    | refine sx_next ?_
    | refine sw_seq ?_
    | refine sw_region ?_
    | refine swl_g_on (by rfl) (by rfl) ?_
    | refine sx_past_ret ?_
    | refine sw_cond_true (by rfl) ?_
    | refine sw_ret ?_
    | fail)
    exact sx_ret_of (res2 rfl (ResOne.tmp rfl) (ResOne.tmp rfl)) _ ⟨rfl, rfl⟩ (by (repeat (first | exact Ent.refl _ | exact Ent.nil | (apply Ent.pick; focus ((repeat (first | exact Rem.here | apply Rem.there)); done)) | apply Ent.drop)))
end Go.Proofs.YtjdnflhejfcgdaaDoor

/-
  Media: made.
-/
namespace Go.Proofs.YtjdnflhejfcgdaaDoor
open Go Go.SL Go.Proofs

def fmV (vl : List (Nat × DevS)) (i : Nat) : List (Nat × DevS) := vl.mapIdx fun k x => if k < i then (x.1, ewfS x.2 (labelF k 0)) else x
theorem fmV_len (vl : List (Nat × DevS)) (i : Nat) : (fmV vl i).length = vl.length := by simp [fmV]
theorem fmV_fst (vl : List (Nat × DevS)) (i : Nat) : (fmV vl i).map Prod.fst = vl.map Prod.fst := by
  apply List.ext_getElem?
  intro k
  simp only [fmV, List.getElem?_map, List.getElem?_mapIdx]
  cases vl[k]? with
  | none => rfl
  | some x => simp only [Option.map_some]; split <;> rfl
theorem fmV_zero (vl : List (Nat × DevS)) : fmV vl 0 = vl := by
  apply List.ext_getElem?
  intro k
  simp only [fmV, List.getElem?_mapIdx]
  cases vl[k]? <;> simp
theorem fmV_at {vl : List (Nat × DevS)} {i : Nat} (h : i < vl.length) : (fmV vl i)[i]'(by rw [fmV_len]; exact h) = vl[i] := by simp [fmV]
theorem fmV_succ {vl : List (Nat × DevS)} {i : Nat} (h : i < vl.length) : fmV vl (i + 1) = (fmV vl i).set i (vl[i].1, ewfS vl[i].2 (labelF i 0)) := by
  apply List.ext_getElem?
  intro k
  simp only [fmV, List.getElem?_mapIdx, List.getElem?_set, List.length_mapIdx]
  by_cases hk : i = k
  · subst hk; simp [h]
  · rw [if_neg hk]
    have : (k < i + 1) = (k < i) := by simp; omega
    simp only [this]

set_option maxHeartbeats 4000000 in
theorem medium_Format (g : Geo) (d : Nat) (s : DevS) (vl : List (Nat × DevS)) (hm : mayG g = true) (hf : fitsF g s vl = true) (hs : ewfE s (superF g) = 0) (hvs : ∀ i (h : i < vl.length), ewfE vl[i].2 (labelF i 0) = 0) {pv : Option Addr} {nv cv : Nat} {F : List HP} [HalvesC F] (hv : SlC F pv 1 nv cv ((vl.map Prod.fst).map ptrc)) :
    Tr Tryd.prog 21 [.agg g.cells, .pointer (some ⟨d, 0, none⟩), .slice pv nv cv].toArray (devP d s :: devsP vl :: F)
      (fun v L' => ∃ m, v = .tuple #[.pointer (some ⟨m, 0, none⟩), .int .i64 0] ∧ L' = medP m d (vl.map Prod.fst) g (List.replicate vl.length 0 ++ List.replicate (8 - vl.length) (-1)) :: devP d (ewfS s (superF g)) :: devsP (fmV vl vl.length) :: F) := by
  refine tr_enter Tryd.func21 rfl Tryd.ntmps21 rfl fun w0 => ?_
  have hnv : (vl.length : Int) = g.vols := by
    simp only [fitsF, Bool.and_eq_true, decide_eq_true_eq] at hf
    exact hf.1.2
  have hg := mayG_is hm
  have hlen : vl.length = nv := by simpa using hv.len
  have hst := fun (x y z : Nat) (F : List HP) (T1 T2 T3 : TypeId) (p : Option Addr) (n c : Nat) (hx : ReadC F x (.cells #[.pointer (some ⟨d, 0, none⟩)] T1)) (hy : ReadC F y (.cells #[.int .i64 0] T2)) (hz : ReadC F z (.cells #[.slice p n c] T3)) (hb : SlC F p 1 n c ((superF g).map u8c)) => steps_ewf d s (superF g) x y z hx hy hz hb
  rw [hs] at hst
  have hn1 : ((vl.map Prod.fst).length : Int) = g.vols := by rw [List.length_map]; exact hnv
  repeat' (first
    | refine swl_op ?_
    | (refine s1_move ?_; refine sc_r (R_move (by rfl)) (by rfl) ?_)
    | (refine s1_load ?_; first | refine sc_r (L_load' (by rfl) (by infer_instance) (by rfl)) (by rfl) ?_ | refine sc_r (L_load_all (by rfl) (by infer_instance) (by rfl)) (by rfl) ?_)
    | (refine s1_fieldAddr ?_; refine sc_r (R_fieldAddr (by rfl)) (by rfl) ?_)
    | (refine s1_assign ?_; refine sc_r (R_assign (by rfl)) (by rfl) ?_)
    | (refine s1_pick ?_; refine sc_r (R_pick_f (by rfl) (by rfl)) (by rfl) ?_)
    | (refine s1_bin ?_; refine sc_r (R_neq (by rfl) (by rfl)) (by rfl) ?_)
    | (refine s1_call ?_; first | (refine sc_c (by rfl) (C_call (by rfl) (by infer_instance) (by rfl) (by rfl) (addr_May' g _ hm)) (by rfl) ?_; rintro _ _ ⟨rfl, rfl⟩) | (refine sc_c (by rfl) (C_call (by rfl) (by infer_instance) (by rfl) (by rfl) (Tr.ent (Ent.pick (by focus ((repeat (first | exact Rem.here | apply Rem.there)); done)) (Ent.pick (by focus ((repeat (first | exact Rem.here | apply Rem.there)); done)) (Ent.refl _))) (medium_fits' true g hm d s vl hf (by infer_instance)))) (by rfl) ?_; rintro _ _ ⟨rfl, rfl⟩) | (refine sc_c (by rfl) (C_call (by rfl) (by infer_instance) (by rfl) (by rfl) (label_Super g hm)) (by rfl) ?_; rintro _ _ ⟨sl, rfl, rfl⟩; refine swl_know (fun h H => vec_fact H) ?_; rintro ⟨ps, cs, rfl, hfs⟩; rw [List.length_map] at hfs ⊢) | (refine sc_c (by rfl) (C_call (by rfl) (by infer_instance) (by rfl) (by rfl) (medium_writing _ _ _ (by rfl) (by rfl) (by rfl))) (by rfl) ?_; rintro _ _ ⟨x, y, z, rfl, rfl⟩) | (refine sc_c (by rfl) (C_call (by rfl) (by infer_instance) (by rfl) (by rfl) (Tr.ent (Ent.pick (by focus ((repeat (first | exact Rem.here | apply Rem.there)); done)) (Ent.refl _)) (medium_steps d [fErase d, fWrite x y z, fFlush d] (hst x y z _ _ _ _ _ _ _ (by infer_instance) (by infer_instance) (by infer_instance) (by infer_instance)) (by infer_instance) (by rfl)))) (by rfl) ?_; rintro _ _ ⟨rfl, rfl⟩) | (refine sc_c (by rfl) (C_call (by rfl) (by infer_instance) (by rfl) (by rfl) (medium_combine g hm d (vl.map Prod.fst) hn1 (by infer_instance))) (by rfl) ?_; rintro _ _ ⟨m, rfl, rfl⟩; refine swl_open_med fun pw cw hw1 hw2 => ?_) | refine sc_r (R_len (by rfl)) (by rfl) ?_)
    | (refine s1_box ?_; (refine sc_w (by rfl) (W_boxA (by rfl)) (by rfl) ?_; rintro _ _ ⟨_, rfl, rfl⟩))
    | (refine s1_any ?_; first | (refine sc_w (by rfl) (W_buildSliceV (by rfl) (by rfl) (by rfl) (by rfl) (by rfl) (by rfl) (by rfl)) (by rfl) ?_; rintro _ _ ⟨_, rfl, rfl, _, _⟩) | refine sc_r (R_not (by rfl)) (by rfl) ?_ | refine sc_r (R_extract (by rfl) (by rfl)) (by rfl) ?_ | refine sc_r (R_nilCheck (by rfl)) (by rfl) ?_ | refine sc_r (R_makeFunc (by rfl) (by rfl)) (by rfl) ?_)
    | refine swl_nil ?_
    | refine sx_next ?_
    | refine sw_seq ?_
    | refine sw_region ?_
    | refine sw_block ?_
    | refine swl_g_on (by rfl) (by rfl) ?_
    | refine sw_cond_false (by rfl) ?_
    | refine sw_skip ?_
    | fail)

  have hll : (vl.map Prod.fst).length = vl.length := by simp
  have hset : ∀ i, i < 8 → (List.replicate i 0 ++ List.replicate (8 - i) (-1 : Int)).set i 0 = List.replicate (i + 1) 0 ++ List.replicate (8 - (i + 1)) (-1) := by decide
  refine sw_loop (γ := Nat) (fun i => vl.length - i) (fun i => [(11, .pointer (some ⟨m, 0, none⟩)), (54, .slice pw (vl.map Prod.fst).length cw), (55, .int .i64 vl.length), (56, .int .i64 i)])
    (fun i => pt m (.cells (medCells g d (.slice pw (vl.map Prod.fst).length cw) (List.replicate i 0 ++ List.replicate (8 - i) (-1))) 108) :: vec 58 1 ((vl.map Prod.fst).map ptrc) (.slice pw (vl.map Prod.fst).length cw) :: devP d (ewfS s (superF g)) :: devsP (fmV vl i) :: F)
    (fun i => i ≤ vl.length) 0 (by omega) (subE.cons rfl (subE.cons rfl (subE.cons (by refine congrArg (fun z => some (Value.int .i64 z)) ?_; rw [hll]) (subE.cons rfl subE.nil)))) (by rw [fmV_zero]; (repeat (first | exact Ent.refl _ | exact Ent.nil | (apply Ent.pick; focus ((repeat (first | exact Rem.here | apply Rem.there)); done)) | apply Ent.drop))) ?_
  intro i hi
  by_cases hlt : i < vl.length
  · obtain ⟨b1, o1, rfl⟩ := hw1.ptr (by omega)
    have he1 : ((vl.map Prod.fst).map ptrc).getD i #[] = #[.pointer (some ⟨vl[i].1, 0, none⟩)] := by rw [ptr_get (by simpa using hlt)]; simp
    have hcut := fun (F : List HP) => devs_cut (fmV vl i) i (by rw [fmV_len]; exact hlt) (F := F)
    have hput := fun (S : DevS) (F : List HP) => devs_put (fmV vl i) i (by rw [fmV_len]; exact hlt) S (F := F)
    rw [fmV_at hlt] at hcut hput
    have hsu := fmV_succ hlt
    have hs8 := hset i (by omega)
    have hl8 : (List.replicate i 0 ++ List.replicate (8 - i) (-1 : Int)).length = 8 := by simp; omega
    have hsz : 0 + 6 + i * 1 < (medCells g d (.slice (some ⟨b1, o1, none⟩) (vl.map Prod.fst).length cw) (List.replicate i 0 ++ List.replicate (8 - i) (-1))).size := by rw [medCells_size]; omega
    have hlm : labMay i 0 = true := by simp [labMay]; omega
    have hv0 := hvs i hlt
    generalize hS : vl[i].2 = S at *
    generalize hA : vl[i].1 = A at *
    have hstv := fun (x y z : Nat) (F : List HP) (T1 T2 T3 : TypeId) (p : Option Addr) (n c : Nat) (hx : ReadC F x (.cells #[.pointer (some ⟨A, 0, none⟩)] T1)) (hy : ReadC F y (.cells #[.int .i64 0] T2)) (hz : ReadC F z (.cells #[.slice p n c] T3)) (hb : SlC F p 1 n c ((labelF i 0).map u8c)) => steps_ewf A S (labelF i 0) x y z hx hy hz hb
    rw [hv0] at hstv
    repeat' (first
    | refine swl_op ?_
    | (refine s1_move ?_; refine sc_r (R_move (by rfl)) (by rfl) ?_)
    | (refine s1_load ?_; refine sc_r (L_load_el1 (by rfl) (by infer_instance) (by omega) (by first | assumption | rfl)) (by rfl) ?_)
    | (refine s1_fieldAddr ?_; refine sc_r (R_fieldAddr (by rfl)) (by rfl) ?_)
    | (refine s1_assign ?_; refine sc_r (R_assign (by rfl)) (by rfl) ?_)
    | (refine s1_bin ?_; first | refine sc_r (R_lss (by rfl) (by rfl)) (by rfl) ?_ | refine sc_r (R_add64 (by rfl) (by rfl) (by omega)) (by rfl) ?_ | refine sc_r (R_neq (by rfl) (by rfl)) (by rfl) ?_)
    | (refine s1_call ?_; first | (refine sc_c (by rfl) (C_call (by rfl) (by infer_instance) (by rfl) (by rfl) (label_Label i 0 hlm)) (by rfl) ?_; rintro _ _ ⟨sl2, rfl, rfl⟩; refine swl_know (fun h H => vec_fact H) ?_; rintro ⟨ps2, cs2, rfl, hfs2⟩; rw [List.length_map] at hfs2 ⊢) | (refine sc_c (by rfl) (C_call (by rfl) (by infer_instance) (by rfl) (by rfl) (medium_writing _ _ _ (by rfl) (by rfl) (by rfl))) (by rfl) ?_; rintro _ _ ⟨x, y, z, rfl, rfl⟩) | (refine sc_c (by rfl) (C_call (by rfl) (by infer_instance) (by rfl) (by rfl) (Tr.ent (Ent.trans (Ent.pick (by focus ((repeat (first | exact Rem.here | apply Rem.there)); done)) (Ent.refl _)) (hcut _)) (medium_steps A [fErase A, fWrite x y z, fFlush A] (hstv x y z _ _ _ _ _ _ _ (by infer_instance) (by infer_instance) (by infer_instance) (by infer_instance)) (by infer_instance) (by rfl)))) (by rfl) ?_; rintro _ _ ⟨rfl, rfl⟩))
    | (refine s1_indexAddr ?_; first | refine sc_r (R_indexAddr (by rfl) (by rfl) (by omega)) (by rfl) ?_ | refine sc_r (R_indexAddr_arr (by rfl) (by rfl) (by omega)) (by rfl) ?_)
    | (refine s1_store ?_; (refine sc_w (by rfl) (W_store1 (by rfl) (by rfl) (by infer_instance) (by rfl) (by assumption) (by rfl)) (by rfl) ?_; rintro _ _ ⟨rfl, rfl⟩))
    | (refine s1_any ?_; first | (refine sc_w (by rfl) (W_buildSliceV (by rfl) (by rfl) (by rfl) (by rfl) (by rfl) (by rfl) (by rfl)) (by rfl) ?_; rintro _ _ ⟨_, rfl, rfl, _, _⟩) | refine sc_r (R_extract (by rfl) (by rfl)) (by rfl) ?_ | refine sc_r (R_nilCheck (by rfl)) (by rfl) ?_ | refine sc_r (R_makeFunc (by rfl) (by rfl)) (by rfl) ?_)
    | refine swl_nil ?_
    | refine sx_next ?_
    | refine sw_seq ?_
    | refine sw_region ?_
    | refine sw_block ?_
    | refine sx_block_normal ?_
    | refine sw_cond_false (by rfl) ?_
    | refine sw_cond_pos (by rfl) (by first | assumption | omega) ?_
    | refine sw_skip ?_
    | fail)
    refine sx_back (i + 1) (by omega) (by omega) (subE.cons rfl (subE.cons rfl (subE.cons rfl (subE.cons rfl subE.nil)))) ?_
    rw [hsu, ← hs8, ← gens_set]
    refine Ent.pick (by focus ((repeat (first | exact Rem.here | apply Rem.there)); done)) (Ent.pick (by focus ((repeat (first | exact Rem.here | apply Rem.there)); done)) (Ent.pick (by focus ((repeat (first | exact Rem.here | apply Rem.there)); done)) (Ent.trans ?_ (hput _ _))))
    (repeat (first | exact Ent.refl _ | exact Ent.nil | (apply Ent.pick; focus ((repeat (first | exact Rem.here | apply Rem.there)); done)) | apply Ent.drop))
  · obtain rfl : i = vl.length := by omega
    repeat' (first
    | refine swl_op ?_
    | (refine s1_move ?_; refine sc_r (R_move (by rfl)) (by rfl) ?_)
    | (refine s1_assign ?_; refine sc_r (R_assign (by rfl)) (by rfl) ?_)
    | (refine s1_bin ?_; refine sc_r (R_lss (by rfl) (by rfl)) (by rfl) ?_)
    | refine swl_nil ?_
    | refine sx_next ?_
    | refine sw_seq ?_
    | refine sw_region ?_
    | refine sx_past_exit ?_
    | refine sx_block_here ?_
    | refine sw_cond_neg (by rfl) (by first | assumption | omega) ?_
    | refine sw_ret ?_
    | refine sw_exit ?_
    | fail)
    refine sx_ret_of (res2 rfl (ResOne.tmp rfl) (ResOne.tmp rfl)) _ ⟨_, rfl, rfl⟩ (Ent.trans ?_ (med_close ⟨by simp; omega, hn1, hm, ?_⟩ (sv := .slice pw (vl.map Prod.fst).length cw)))
    · (repeat (first | exact Ent.refl _ | exact Ent.nil | (apply Ent.pick; focus ((repeat (first | exact Rem.here | apply Rem.there)); done)) | apply Ent.drop))
    · intro x hx
      rcases List.mem_append.1 hx with hx | hx
      · rw [(List.mem_replicate.1 hx).2]; omega
      · rw [(List.mem_replicate.1 hx).2]; omega
end Go.Proofs.YtjdnflhejfcgdaaDoor

/-
  Media: opened.
-/
namespace Go.Proofs.YtjdnflhejfcgdaaDoor
open Go Go.SL Go.Proofs

theorem readSuperF_ok {b : List Int} (h : (readSuperF b).2 = 0) : mayG (readSuperF b).1 = true := by
  unfold readSuperF at h ⊢
  dsimp only at h ⊢
  split at h
  · rename_i h0
    rw [if_pos h0]
    split at h
    · rename_i hm
      rw [if_pos hm]; exact hm
    · simp at h
  · rename_i h0
    exact absurd h h0
theorem genLab_bd (vol : Int) (s : DevS) : -1 ≤ genLab vol s ∧ genLab vol s ≤ 4294967295 := by
  unfold genLab
  split
  · split
    · rename_i h
      obtain ⟨h1, _⟩ := h
      unfold readLabelF at h1 ⊢
      dsimp only at h1 ⊢
      split at h1
      · rename_i h2
        rw [if_pos h2]
        split at h1
        · rename_i h3
          rw [if_pos h3]
          simp only [labMay, decide_eq_true_eq] at h3
          dsimp only
          omega
        · simp at h1
      · rename_i h2
        exact absurd h1 h2
    · omega
  · omega
def openE (s : DevS) (vl : List (Nat × DevS)) : Int := if s.blocks.length < 16 then 1 else if rdE s 0 = 0 then (if (readSuperF (rdB s 0)).2 = 0 then (if fitsF (readSuperF (rdB s 0)).1 s vl then 0 else 1) else (readSuperF (rdB s 0)).2) else rdE s 0
def openG (vl : List (Nat × DevS)) (i : Nat) : List Int := ((vl.take i).mapIdx fun k x => genLab k x.2) ++ List.replicate (8 - i) (-1)
theorem openG_len {vl : List (Nat × DevS)} {i : Nat} (h : i ≤ vl.length) (h8 : i ≤ 8) : (openG vl i).length = 8 := by simp [openG]; omega
theorem openG_succ {vl : List (Nat × DevS)} {i : Nat} (h : i < vl.length) (h8 : i < 8) : (openG vl i).set i (genLab i vl[i].2) = openG vl (i + 1) := by
  have h1 : ((vl.take i).mapIdx fun k x => genLab k x.2).length = i := by simp; omega
  unfold openG
  rw [List.set_append_right _ _ (by omega), h1, Nat.sub_self, List.take_succ_eq_append_getElem h, List.mapIdx_append]
  rw [show 8 - i = (8 - (i + 1)) + 1 by omega, List.replicate_succ, List.set_cons_zero, List.append_assoc]
  congr 1
  simp [show min i vl.length = i by omega]
end Go.Proofs.YtjdnflhejfcgdaaDoor

/-
  Media: renewed; the geometry.
-/
namespace Go.Proofs.YtjdnflhejfcgdaaDoor
open Go Go.SL Go.Proofs

theorem medium_Geo (m d : Nat) (vs : List Nat) (g : Geo) (gens : List Int) {F : List HP} : Tr Tryd.prog 28 [.pointer (some ⟨m, 0, none⟩)].toArray (medP m d vs g gens :: F) (fun v L' => v = .agg g.cells ∧ L' = medP m d vs g gens :: F) := by
  refine Tr.open_med fun pv cv h1 h2 => ?_
  refine tr_enter Tryd.func28 rfl Tryd.ntmps28 rfl fun w0 => ?_
  repeat' (first
    | (refine s1_load ?_; refine sc_r (L_load_part (by rfl) (by infer_instance) (by rfl) (by rfl)) (by rfl) ?_)
    | refine swl_op ?_
    | (refine s1_move ?_; refine sc_r (R_move (by rfl)) (by rfl) ?_)
    | (refine s1_fieldAddr ?_; refine sc_r (R_fieldAddr (by rfl)) (by rfl) ?_)
    | (refine s1_store ?_; (refine sc_w (by rfl) (W_storeAll (by rfl) (by rfl) (by infer_instance) (by rfl) (by rfl) (by rfl)) (by rfl) ?_; rintro _ _ ⟨rfl, rfl⟩))
    | (refine s1_alloc ?_; (refine sc_w (by rfl) W_allocA (by rfl) ?_; rintro _ _ ⟨_, rfl, rfl⟩))
    | (refine s1_any ?_; refine sc_r (R_nilCheck (by rfl)) (by rfl) ?_)
    | refine swl_nil ?_
    | refine sx_next ?_
    | refine sw_seq ?_
    | refine sw_region ?_
    | refine sw_ret ?_
    | fail)
  refine sx_ret_of (res1 rfl (ResOne.cellA (by rfl) (by infer_instance) (by rfl))) _ ⟨rfl, rfl⟩ (Ent.trans ?_ (med_close h2 (sv := .slice pv vs.length cv)))
  (repeat (first | exact Ent.refl _ | exact Ent.nil | (apply Ent.pick; focus ((repeat (first | exact Rem.here | apply Rem.there)); done)) | apply Ent.drop))

end Go.Proofs.YtjdnflhejfcgdaaDoor

/-
  What laws hand in: blocks of one octet; the document's devices, of which nothing is asked here; geometries that may be.
-/
namespace Go.Proofs.YtjdnflhejfcgdaaDoor
open Go Go.SL Go.Proofs

def allB (c : Int) : List Int := List.replicate 128 c
theorem all_step (c : Int) {i : Nat} (h : i < 128) : ((List.replicate i c ++ List.replicate (128 - i) (0 : Int)).map u8c).set i (u8c c) = (List.replicate (i + 1) c ++ List.replicate (128 - (i + 1)) 0).map u8c := by
  rw [← List.map_set]
  congr 1
  rw [List.set_append_right _ _ (by simp), List.length_replicate, Nat.sub_self, show 128 - i = (128 - (i + 1)) + 1 by omega, List.replicate_succ, List.set_cons_zero, List.replicate_succ', List.append_assoc]; rfl
set_option maxRecDepth 100000 in
theorem law4_All (c : Int) {L : List HP} : Tr Tryd.prog 25 [.int .u8 c].toArray L (fun v L' => ∃ b, v = .slice (some ⟨b, 0, none⟩) 128 128 ∧ SlOK (some ⟨b, 0, none⟩) 128 128 ∧ L' = vec 5 1 ((allB c).map u8c) (.slice (some ⟨b, 0, none⟩) 128 128) :: L) := by
  refine tr_enter Tryd.func25 rfl Tryd.ntmps25 rfl fun w0 => ?_
  repeat' (first
    | refine swl_op ?_
    | (refine s1_assign ?_; refine sc_r (R_assign (by rfl)) (by rfl) ?_)
    | (refine s1_any ?_; (refine sc_w (by rfl) (W_makeSlice (n' := 128) (c' := 128) (zc := u8c 0) (by rfl) (by rfl) (by rfl) (by rfl) (by rfl) (by omega) (by omega)) (by rfl) ?_; rintro _ _ ⟨b, rfl, hok, rfl⟩))
    | refine swl_nil ?_
    | refine sx_next ?_
    | refine sw_seq ?_
    | refine sw_region ?_
    | refine sw_block ?_
    | fail)
  refine sw_loop (γ := Nat) (fun i => 128 - i) (fun i => [(0, .int .u8 c), (3, .slice (some ⟨b, 0, none⟩) 128 128), (4, .int .i64 i)]) (fun i => vec 5 1 ((List.replicate i c ++ List.replicate (128 - i) 0).map u8c) (.slice (some ⟨b, 0, none⟩) 128 128) :: L) (fun i => i ≤ 128) 0 (by omega)
    (subE.cons rfl (subE.cons rfl (subE.cons rfl subE.nil))) (by rw [List.replicate_zero, List.nil_append, List.map_replicate]; (repeat (first | exact Ent.refl _ | exact Ent.nil | (apply Ent.pick; focus ((repeat (first | exact Rem.here | apply Rem.there)); done)) | apply Ent.drop))) ?_
  intro i hi
  by_cases hlt : i < 128
  · have hst := all_step c hlt
    have hli : i < ((List.replicate i c ++ List.replicate (128 - i) (0 : Int)).map u8c).length := by simp; omega
    repeat' (first
    | refine swl_op ?_
    | (refine s1_move ?_; refine sc_r (R_move (by rfl)) (by rfl) ?_)
    | (refine s1_assign ?_; refine sc_r (R_assign (by rfl)) (by rfl) ?_)
    | (refine s1_bin ?_; first | refine sc_r (R_lss (by rfl) (by rfl)) (by rfl) ?_ | refine sc_r (R_add64 (by rfl) (by rfl) (by omega)) (by rfl) ?_)
    | (refine s1_indexAddr ?_; refine sc_r (R_indexAddr (by rfl) (by rfl) (by omega)) (by rfl) ?_)
    | (refine s1_store ?_; (refine sc_w (by rfl) (W_store_el1 (by rfl) (by rfl) (by focus ((repeat (first | exact Rem.here | apply Rem.there)); done)) (by rfl) hli) (by rfl) ?_; rintro _ _ ⟨rfl, rfl⟩))
    | refine swl_nil ?_
    | refine sx_next ?_
    | refine sw_seq ?_
    | refine sw_region ?_
    | refine sw_block ?_
    | refine sx_block_normal ?_
    | refine sw_cond_pos (by rfl) (by first | assumption | omega) ?_
    | refine sw_skip ?_
    | fail)
    refine sx_back (i + 1) (by omega) (by omega) (subE.cons rfl (subE.cons rfl (subE.cons rfl subE.nil))) ?_
    rw [← hst]
    (repeat (first | exact Ent.refl _ | exact Ent.nil | (apply Ent.pick; focus ((repeat (first | exact Rem.here | apply Rem.there)); done)) | apply Ent.drop))
  · have h128 : i = 128 := by omega
    repeat' (first
    | refine swl_op ?_
    | (refine s1_move ?_; refine sc_r (R_move (by rfl)) (by rfl) ?_)
    | (refine s1_assign ?_; refine sc_r (R_assign (by rfl)) (by rfl) ?_)
    | (refine s1_bin ?_; refine sc_r (R_lss (by rfl) (by rfl)) (by rfl) ?_)
    | refine swl_nil ?_
    | refine sx_next ?_
    | refine sw_seq ?_
    | refine sw_region ?_
    | refine sx_past_exit ?_
    | refine sx_block_here ?_
    | refine sw_cond_neg (by rfl) (by first | assumption | omega) ?_
    | refine sw_ret ?_
    | refine sw_exit ?_
    | fail)
    refine sx_ret_of (res1 rfl (ResOne.tmp rfl)) _ ⟨_, rfl, hok, rfl⟩ ?_
    rw [h128, show List.replicate 128 c ++ List.replicate (128 - 128) (0 : Int) = allB c by rw [Nat.sub_self, List.replicate_zero, List.append_nil]; rfl]
    (repeat (first | exact Ent.refl _ | exact Ent.nil | (apply Ent.pick; focus ((repeat (first | exact Rem.here | apply Rem.there)); done)) | apply Ent.drop))

theorem ref3_May (g : Geo) {L : List HP} : Tr Tryd.prog 13 [.agg g.cells].toArray L (fun v L' => v = .bool (mayG g) ∧ L = L') := by
  refine tr_enter Tryd.func13 rfl Tryd.ntmps13 rfl fun w0 => ?_
  unfold Geo.cells
  repeat' (first
    | refine swl_op ?_
    | (refine s1_move ?_; refine sc_r (R_move (by rfl)) (by rfl) ?_)
    | (refine s1_load ?_; refine sc_r (L_load' (by rfl) (by infer_instance) (by rfl)) (by rfl) ?_)
    | (refine s1_fieldAddr ?_; refine sc_r (R_fieldAddr (by rfl)) (by rfl) ?_)
    | (refine s1_assign ?_; refine sc_r (R_assign (by rfl)) (by rfl) ?_)
    | (refine s1_pick ?_; first | refine sc_r (R_pick_t (by rfl) (by rfl)) (by rfl) ?_ | refine sc_r (R_pick_f (by rfl) (by rfl)) (by rfl) ?_)
    | (refine s1_bin ?_; first | refine sc_r (R_leq (by rfl) (by rfl)) (by rfl) ?_ | refine sc_r (R_sub64 (by rfl) (by rfl) (by omega)) (by rfl) ?_)
    | (refine s1_box ?_; (refine sc_w (by rfl) (W_boxA (by rfl)) (by rfl) ?_; rintro _ _ ⟨_, rfl, rfl⟩))
    | refine swl_nil ?_
    | refine sx_next ?_
    | refine sw_seq ?_
    | refine sw_region ?_
    | refine swl_g_on (by rfl) (by rfl) ?_
    | refine swl_g_off (by rfl) (by rfl) (by rfl) (by rfl) ?_
    | refine swl_g_dec (by rfl) (by rfl) (fun hp => ?_) (fun hp => ?_)
    | refine sw_ret ?_
    | fail)
  all_goals refine sx_ret_of (res1 rfl (ResOne.tmp rfl)) L ⟨?_, rfl⟩ (by (repeat (first | exact Ent.refl _ | exact Ent.nil | (apply Ent.pick; focus ((repeat (first | exact Rem.here | apply Rem.there)); done)) | apply Ent.drop)))
  all_goals (refine congrArg Value.bool ?_; simp only [mayG]; grind)
theorem ref3_May' (g : Geo) (b : Bool) (h : mayG g = b) {L : List HP} : Tr Tryd.prog 13 [.agg g.cells].toArray L (fun v L' => v = .bool b ∧ L = L') := h ▸ ref3_May g

theorem ref4_Noughts {L : List HP} : Tr Tryd.prog 54 [].toArray L (fun v L' => ∃ s, v = .string s ∧ L = L') := by
  refine tr_enter Tryd.func54 rfl Tryd.ntmps54 rfl fun w0 => ?_
  repeat' (first
    | refine swl_op ?_
    | (refine s1_assign ?_; refine sc_r (R_assign (by rfl)) (by rfl) ?_)
    | (refine s1_conv ?_; refine sc_r (R_bytes_string (l := List.replicate 128 0) (by rfl) (@SlC.ofVec _ _ _ _ _ _ _ hok ⟨by rw [List.length_map, List.length_replicate]⟩)) (by rfl) ?_)
    | (refine s1_any ?_; (refine sc_w (by rfl) (W_makeSlice (n' := 128) (c' := 128) (zc := u8c 0) (by rfl) (by rfl) (by rfl) (by rfl) (by rfl) (by omega) (by omega)) (by rfl) ?_; rintro _ _ ⟨b, rfl, hok, rfl⟩; rw [show List.replicate 128 (u8c 0) = (List.replicate 128 (0 : Int)).map u8c from List.map_replicate.symm]))
    | refine swl_nil ?_
    | refine sx_next ?_
    | refine sw_seq ?_
    | refine sw_region ?_
    | refine sw_ret ?_
    | fail)
  exact sx_ret_of (res1 rfl (ResOne.tmp rfl)) _ ⟨_, rfl, rfl⟩ (by (repeat (first | exact Ent.refl _ | exact Ent.nil | (apply Ent.pick; focus ((repeat (first | exact Rem.here | apply Rem.there)); done)) | apply Ent.drop)))

set_option maxHeartbeats 4000000 in
theorem ref4_New (n : Nat) (hn : n ≤ 100000) {L : List HP} : Tr Tryd.prog 23 [.int .i64 n].toArray L (fun v L' => ∃ b, v = .pointer (some ⟨b, 0, none⟩) ∧ L = L') := by
  refine tr_enter Tryd.func23 rfl Tryd.ntmps23 rfl fun w0 => ?_
  repeat' (first
    | refine swl_op ?_
    | (refine s1_assign ?_; refine sc_r (R_assign (by rfl)) (by rfl) ?_)
    | (refine s1_box ?_; (refine sc_w (by rfl) (W_boxA (by rfl)) (by rfl) ?_; rintro _ _ ⟨_, rfl, rfl⟩))
    | (refine s1_any ?_; refine sc_r (R_buildL (by rfl) (by rfl)) (by rfl) ?_)
    | refine swl_nil ?_
    | refine sx_next ?_
    | refine sw_seq ?_
    | refine sw_region ?_
    | refine sw_block ?_
    | fail)
  rename_i b
  refine sw_ent (Ent.vec_nil (e := 9) (k := 1)) ?_
  refine sw_ent (Ent.vec_nil (e := 3) (k := 1)) ?_
  refine sw_loop (γ := Nat × Value × Value × List (Array Value) × List (Array Value)) (fun g => n - g.1) (fun g => [(0, .int .i64 n), (3, .pointer (some ⟨b, 0, none⟩)), (4, .int .i64 g.1)])
    (fun g => pt b (.cells #[g.2.1, g.2.2.1, .slice none 0 0, .int .i64 (-1), .bool false, .bool false] 112) :: vec 9 1 g.2.2.2.1 g.2.1 :: vec 3 1 g.2.2.2.2 g.2.2.1 :: L) (fun g => g.1 ≤ n ∧ g.2.2.2.1.length = g.1 ∧ g.2.2.2.2.length = g.1) (0, .slice none 0 0, .slice none 0 0, [], []) ⟨by simp, rfl, rfl⟩
    (subE.cons rfl (subE.cons rfl (subE.cons rfl subE.nil))) (by (repeat (first | exact Ent.refl _ | exact Ent.nil | (apply Ent.pick; focus ((repeat (first | exact Rem.here | apply Rem.there)); done)) | apply Ent.drop))) ?_
  rintro ⟨i, sH, sF, e1, e2⟩ ⟨hi, hl1, hl2⟩
  dsimp only at hi hl1 hl2 ⊢
  by_cases hlt : i < n
  · repeat' (first
    | refine swl_op ?_
    | (refine s1_move ?_; refine sc_r (R_move (by rfl)) (by rfl) ?_)
    | (refine s1_bin ?_; refine sc_r (R_lss (by rfl) (by rfl)) (by rfl) ?_)
    | refine swl_nil ?_
    | refine sx_next ?_
    | refine sw_seq ?_
    | refine sw_region ?_
    | refine sw_block ?_
    | refine sw_cond_pos (by rfl) (by first | assumption | omega) ?_
    | refine sw_skip ?_
    | fail)
    refine sw_openL L follows (by decide +kernel) (by (repeat (first | exact Ent.refl _ | exact Ent.nil | (apply Ent.pick; focus ((repeat (first | exact Rem.here | apply Rem.there)); done)) | apply Ent.drop))) ?_
    repeat' (first
    | (refine s1_move ?_; refine sc_r (R_move (by rfl)) (by rfl) ?_)
    | (refine s1_fieldAddr ?_; refine sc_r (R_fieldAddr (by rfl)) (by rfl) ?_)
    | (refine s1_any ?_; refine sc_r (R_nilCheck (by rfl)) (by rfl) ?_)
    | (refine swg_take 0 (by decide +kernel) (by rfl) (fun _ _ => wanted_none) ?_)
    | (refine swg_take 1 (by decide +kernel) (by rfl) (fun _ _ => wanted_none) ?_)
    | (refine swg_take 2 (by decide +kernel) (by rfl) (fun _ _ => wanted_none) ?_)
    | (refine swg_take 3 (by decide +kernel) (by rfl) (fun _ _ => wanted_none) ?_)
    | fail)
    refine swg_choice (rs := [4, 5]) (by decide +kernel) rfl ?_
    intro j hj
    simp only [List.mem_cons, List.not_mem_nil, or_false] at hj
    rcases hj with rfl | rfl
    · refine swc_op (by rfl) (fun _ _ => wanted_none) ?_
      repeat' (first
    | (refine s1_load ?_; refine sc_r (L_load' (by rfl) (by infer_instance) (by rfl)) (by rfl) ?_)
    | (apply And.intro; focus ((repeat (first | exact Ent.refl _ | exact Ent.nil | (apply Ent.pick; focus ((repeat (first | exact Rem.here | apply Rem.there)); done)) | apply Ent.drop)); done))
    | fail)
      refine swg_order [(5, false), (6, false), (7, false), (8, true), (9, true), (10, false)] (by rfl) (by decide +kernel) ?_
      repeat' (first
    | refine swl_op ?_
    | (refine s1_move ?_; refine sc_r (R_move (by rfl)) (by rfl) ?_)
    | (refine s1_load ?_; refine sc_r (L_load' (by rfl) (by infer_instance) (by rfl)) (by rfl) ?_)
    | (refine s1_fieldAddr ?_; refine sc_r (R_fieldAddr (by rfl)) (by rfl) ?_)
    | (refine s1_assign ?_; refine sc_r (R_assign (by rfl)) (by rfl) ?_)
    | (refine s1_bin ?_; refine sc_r (R_add64 (by rfl) (by rfl) (by omega)) (by rfl) ?_)
    | (refine s1_call ?_; first | (refine sc_c (by rfl) (C_call (by rfl) (by infer_instance) (by rfl) (by rfl) (ref4_Noughts)) (by rfl) ?_; rintro _ _ ⟨str, rfl, rfl⟩) | (refine sc_w (by rfl) (W_append1 (by rfl) (by rfl) (by focus ((repeat (first | exact Rem.here | apply Rem.there)); done)) (by infer_instance) (by rfl) (by rfl) (by omega)) (by rfl) ?_; rintro vv _ rfl; refine ⟨by (repeat (first | exact Ent.refl _ | exact Ent.nil | (apply Ent.pick; focus ((repeat (first | exact Rem.here | apply Rem.there)); done)) | apply Ent.drop)), ?_⟩; refine swh_know (fun h H => vec_fact H) ?_; rintro ⟨pv, cv, rfl, hv⟩) | (refine sc_w (by rfl) (W_append1 (by rfl) (by rfl) (by focus ((repeat (first | exact Rem.here | apply Rem.there)); done)) (by infer_instance) (by rfl) (by rfl) (by omega)) (by rfl) ?_; rintro vv2 _ rfl; refine swl_know (fun h H => vec_fact H) ?_; rintro ⟨pv2, cv2, rfl, hv2⟩))
    | (refine s1_store ?_; (refine sc_w (by rfl) (W_storeL (by rfl) (by rfl) (by infer_instance) (by rfl) (by rfl) (by rfl)) (by rfl) ?_; rintro _ _ ⟨rfl, rfl⟩))
    | (refine s1_any ?_; first | (refine sc_w (by rfl) (W_buildSlice1s (by rfl) (by rfl)) (by rfl) ?_; rintro _ _ ⟨_, rfl, rfl⟩) | refine sc_r (R_nilCheck (by rfl)) (by rfl) ?_)
    | refine swl_nil ?_
    | refine sx_next ?_
    | refine sw_region ?_
    | refine sx_block_normal ?_
    | refine swh_lt (by rfl) (fun _ _ => wanted_none) ?_
    | refine swh_hv (by rfl) (fun _ _ => wanted_none) ?_
    | refine swh_nil ?_
    | (apply And.intro; focus ((repeat (first | exact Ent.refl _ | exact Ent.nil | (apply Ent.pick; focus ((repeat (first | exact Rem.here | apply Rem.there)); done)) | apply Ent.drop)); done))
    | fail)
      refine sx_back (i + 1, .slice pv (e1 ++ [#[Value.string str]]).length cv, .slice pv2 (e2 ++ [#[Value.int .i64 0]]).length cv2, e1 ++ [#[.string str]], e2 ++ [#[.int .i64 0]]) (by simp only; omega) ⟨by simp only; omega, by simp [hl1], by simp [hl2]⟩ (subE.cons rfl (subE.cons rfl (subE.cons rfl subE.nil))) (by (repeat (first | exact Ent.refl _ | exact Ent.nil | (apply Ent.pick; focus ((repeat (first | exact Rem.here | apply Rem.there)); done)) | apply Ent.drop)))
    · refine swc_op (by rfl) (fun _ _ => wanted_none) ?_
      repeat' (first
    | (refine s1_call ?_; (refine sc_c (by rfl) (C_call (by rfl) (by infer_instance) (by rfl) (by rfl) (ref4_Noughts)) (by rfl) ?_; rintro _ _ ⟨str, rfl, rfl⟩))
    | (apply And.intro; focus ((repeat (first | exact Ent.refl _ | exact Ent.nil | (apply Ent.pick; focus ((repeat (first | exact Rem.here | apply Rem.there)); done)) | apply Ent.drop)); done))
    | fail)
      refine swg_choice (rs := [4, 6]) (by decide +kernel) rfl ?_
      intro j hj
      simp only [List.mem_cons, List.not_mem_nil, or_false] at hj
      rcases hj with rfl | rfl
      · refine swc_op (by rfl) (fun _ _ => wanted_none) ?_
        repeat' (first
    | (refine s1_load ?_; refine sc_r (L_load' (by rfl) (by infer_instance) (by rfl)) (by rfl) ?_)
    | (apply And.intro; focus ((repeat (first | exact Ent.refl _ | exact Ent.nil | (apply Ent.pick; focus ((repeat (first | exact Rem.here | apply Rem.there)); done)) | apply Ent.drop)); done))
    | fail)
        refine swg_order [(6, false), (7, false), (8, true), (9, true), (10, false)] (by rfl) (by decide +kernel) ?_
        repeat' (first
    | refine swl_op ?_
    | (refine s1_move ?_; refine sc_r (R_move (by rfl)) (by rfl) ?_)
    | (refine s1_load ?_; refine sc_r (L_load' (by rfl) (by infer_instance) (by rfl)) (by rfl) ?_)
    | (refine s1_fieldAddr ?_; refine sc_r (R_fieldAddr (by rfl)) (by rfl) ?_)
    | (refine s1_assign ?_; refine sc_r (R_assign (by rfl)) (by rfl) ?_)
    | (refine s1_bin ?_; refine sc_r (R_add64 (by rfl) (by rfl) (by omega)) (by rfl) ?_)
    | (refine s1_call ?_; first | (refine sc_w (by rfl) (W_append1 (by rfl) (by rfl) (by focus ((repeat (first | exact Rem.here | apply Rem.there)); done)) (by infer_instance) (by rfl) (by rfl) (by omega)) (by rfl) ?_; rintro vv _ rfl; refine ⟨by (repeat (first | exact Ent.refl _ | exact Ent.nil | (apply Ent.pick; focus ((repeat (first | exact Rem.here | apply Rem.there)); done)) | apply Ent.drop)), ?_⟩; refine swh_know (fun h H => vec_fact H) ?_; rintro ⟨pv, cv, rfl, hv⟩) | (refine sc_w (by rfl) (W_append1 (by rfl) (by rfl) (by focus ((repeat (first | exact Rem.here | apply Rem.there)); done)) (by infer_instance) (by rfl) (by rfl) (by omega)) (by rfl) ?_; rintro vv2 _ rfl; refine swl_know (fun h H => vec_fact H) ?_; rintro ⟨pv2, cv2, rfl, hv2⟩))
    | (refine s1_store ?_; (refine sc_w (by rfl) (W_storeL (by rfl) (by rfl) (by infer_instance) (by rfl) (by rfl) (by rfl)) (by rfl) ?_; rintro _ _ ⟨rfl, rfl⟩))
    | (refine s1_any ?_; first | (refine sc_w (by rfl) (W_buildSlice1s (by rfl) (by rfl)) (by rfl) ?_; rintro _ _ ⟨_, rfl, rfl⟩) | refine sc_r (R_nilCheck (by rfl)) (by rfl) ?_)
    | refine swl_nil ?_
    | refine sx_next ?_
    | refine sw_region ?_
    | refine sx_block_normal ?_
    | refine swh_lt (by rfl) (fun _ _ => wanted_none) ?_
    | refine swh_hv (by rfl) (fun _ _ => wanted_none) ?_
    | refine swh_nil ?_
    | (apply And.intro; focus ((repeat (first | exact Ent.refl _ | exact Ent.nil | (apply Ent.pick; focus ((repeat (first | exact Rem.here | apply Rem.there)); done)) | apply Ent.drop)); done))
    | fail)
        refine sx_back (i + 1, .slice pv (e1 ++ [#[Value.string str]]).length cv, .slice pv2 (e2 ++ [#[Value.int .i64 0]]).length cv2, e1 ++ [#[.string str]], e2 ++ [#[.int .i64 0]]) (by simp only; omega) ⟨by simp only; omega, by simp [hl1], by simp [hl2]⟩ (subE.cons rfl (subE.cons rfl (subE.cons rfl subE.nil))) (by (repeat (first | exact Ent.refl _ | exact Ent.nil | (apply Ent.pick; focus ((repeat (first | exact Rem.here | apply Rem.there)); done)) | apply Ent.drop)))
      · refine swc_op (by rfl) (fun _ _ => wanted_none) ?_
        repeat' (first
    | (refine s1_any ?_; (refine sc_w (by rfl) (W_buildSlice1s (by rfl) (by rfl)) (by rfl) ?_; rintro _ _ ⟨_, rfl, rfl⟩))
    | (apply And.intro; focus ((repeat (first | exact Ent.refl _ | exact Ent.nil | (apply Ent.pick; focus ((repeat (first | exact Rem.here | apply Rem.there)); done)) | apply Ent.drop)); done))
    | fail)
        refine swg_order [(4, false), (7, false), (8, true), (9, true), (10, false)] (by rfl) (by decide +kernel) ?_
        repeat' (first
    | refine swl_op ?_
    | (refine s1_move ?_; refine sc_r (R_move (by rfl)) (by rfl) ?_)
    | (refine s1_load ?_; refine sc_r (L_load' (by rfl) (by infer_instance) (by rfl)) (by rfl) ?_)
    | (refine s1_fieldAddr ?_; refine sc_r (R_fieldAddr (by rfl)) (by rfl) ?_)
    | (refine s1_assign ?_; refine sc_r (R_assign (by rfl)) (by rfl) ?_)
    | (refine s1_bin ?_; refine sc_r (R_add64 (by rfl) (by rfl) (by omega)) (by rfl) ?_)
    | (refine s1_call ?_; first | (refine sc_w (by rfl) (W_append1 (by rfl) (by rfl) (by focus ((repeat (first | exact Rem.here | apply Rem.there)); done)) (by infer_instance) (by rfl) (by rfl) (by omega)) (by rfl) ?_; rintro vv _ rfl; refine ⟨by (repeat (first | exact Ent.refl _ | exact Ent.nil | (apply Ent.pick; focus ((repeat (first | exact Rem.here | apply Rem.there)); done)) | apply Ent.drop)), ?_⟩; refine swh_know (fun h H => vec_fact H) ?_; rintro ⟨pv, cv, rfl, hv⟩) | (refine sc_w (by rfl) (W_append1 (by rfl) (by rfl) (by focus ((repeat (first | exact Rem.here | apply Rem.there)); done)) (by infer_instance) (by rfl) (by rfl) (by omega)) (by rfl) ?_; rintro vv2 _ rfl; refine swl_know (fun h H => vec_fact H) ?_; rintro ⟨pv2, cv2, rfl, hv2⟩))
    | (refine s1_store ?_; (refine sc_w (by rfl) (W_storeL (by rfl) (by rfl) (by infer_instance) (by rfl) (by rfl) (by rfl)) (by rfl) ?_; rintro _ _ ⟨rfl, rfl⟩))
    | (refine s1_any ?_; first | (refine sc_w (by rfl) (W_buildSlice1s (by rfl) (by rfl)) (by rfl) ?_; rintro _ _ ⟨_, rfl, rfl⟩) | refine sc_r (R_nilCheck (by rfl)) (by rfl) ?_)
    | refine swl_nil ?_
    | refine sx_next ?_
    | refine sw_region ?_
    | refine sx_block_normal ?_
    | refine swh_lt (by rfl) (fun _ _ => wanted_none) ?_
    | refine swh_hv (by rfl) (fun _ _ => wanted_none) ?_
    | refine swh_nil ?_
    | (apply And.intro; focus ((repeat (first | exact Ent.refl _ | exact Ent.nil | (apply Ent.pick; focus ((repeat (first | exact Rem.here | apply Rem.there)); done)) | apply Ent.drop)); done))
    | fail)
        refine sx_back (i + 1, .slice pv (e1 ++ [#[Value.string str]]).length cv, .slice pv2 (e2 ++ [#[Value.int .i64 0]]).length cv2, e1 ++ [#[.string str]], e2 ++ [#[.int .i64 0]]) (by simp only; omega) ⟨by simp only; omega, by simp [hl1], by simp [hl2]⟩ (subE.cons rfl (subE.cons rfl (subE.cons rfl subE.nil))) (by (repeat (first | exact Ent.refl _ | exact Ent.nil | (apply Ent.pick; focus ((repeat (first | exact Rem.here | apply Rem.there)); done)) | apply Ent.drop)))
  · repeat' (first
    | refine swl_op ?_
    | (refine s1_move ?_; refine sc_r (R_move (by rfl)) (by rfl) ?_)
    | (refine s1_assign ?_; refine sc_r (R_assign (by rfl)) (by rfl) ?_)
    | (refine s1_bin ?_; refine sc_r (R_lss (by rfl) (by rfl)) (by rfl) ?_)
    | refine swl_nil ?_
    | refine sx_next ?_
    | refine sw_seq ?_
    | refine sw_region ?_
    | refine sx_past_exit ?_
    | refine sx_block_here ?_
    | refine sw_cond_neg (by rfl) (by first | assumption | omega) ?_
    | refine sw_ret ?_
    | refine sw_exit ?_
    | fail)
    exact sx_ret_of (res1 rfl (ResOne.tmp rfl)) _ ⟨_, rfl, rfl⟩ (by (repeat (first | exact Ent.refl _ | exact Ent.nil | (apply Ent.pick; focus ((repeat (first | exact Rem.here | apply Rem.there)); done)) | apply Ent.drop)))
end Go.Proofs.YtjdnflhejfcgdaaDoor

/-
  What laws hand in: the devices of a geometry.
-/
namespace Go.Proofs.YtjdnflhejfcgdaaDoor
open Go Go.SL Go.Proofs

theorem dev_New' (z : Int) (h : 1 ≤ z ∧ z ≤ 8192) {L : List HP} : Tr Tryd.prog 20 [.int .i64 z].toArray L (fun v L' => ∃ a, v = .tuple #[.pointer (some ⟨a, 0, none⟩), .int .i64 0] ∧ L' = devP a (newDev z.toNat) :: L) := by
  have := dev_New z.toNat (by omega) (L := L)
  rwa [Int.toNat_of_nonneg (by omega)] at this
theorem ref4_New' (z : Int) (h : 0 ≤ z ∧ z ≤ 100000) {L : List HP} : Tr Tryd.prog 23 [.int .i64 z].toArray L (fun v L' => ∃ b, v = .pointer (some ⟨b, 0, none⟩) ∧ L = L') := by
  have := ref4_New z.toNat (by omega) (L := L)
  rwa [Int.toNat_of_nonneg (by omega)] at this

def someG : Geo := ⟨10, 2, 2, 3⟩
end Go.Proofs.YtjdnflhejfcgdaaDoor

/-
  Devices that are well: what they come to.
-/
namespace Go.Proofs.YtjdnflhejfcgdaaDoor
open Go Go.SL Go.Proofs

/-- nothing fails here -/
structure Well (s : DevS) : Prop where
  bu : s.budget = -1
  po : s.power = true
  mo : s.mounted = true
  fa : ∀ i, s.faults i = 0
theorem Well.spE {s : DevS} (h : Well s) : spE s = 0 := by simp [Go.Proofs.YtjdnflhejfcgdaaDoor.spE, spendE, h.bu, h.po, h.mo]
theorem Well.spendS {s : DevS} (h : Well s) : spendS s = s := by
  obtain ⟨bs, p, fl, bu, po, mo⟩ := s
  obtain ⟨rfl, rfl, rfl, _⟩ := h
  simp [Go.Proofs.YtjdnflhejfcgdaaDoor.spendS, spendN, spendP]
theorem Well.rdE {s : DevS} (h : Well s) {i : Int} (hi : thereB s i = true) : rdE s i = 0 := by
  have : bAnd .i64 0 1 = 0 := by decide
  simp [Go.Proofs.YtjdnflhejfcgdaaDoor.rdE, hi, h.po, h.mo, h.fa, this]
theorem Well.rdB {s : DevS} (h : Well s) {i : Int} (hi : thereB s i = true) : rdB s i = curB s i := by simp [Go.Proofs.YtjdnflhejfcgdaaDoor.rdB, h.rdE hi]
theorem Well.wrE {s : DevS} (h : Well s) {i : Int} (hi : thereB s i = true) : wrE s i 128 = 0 := by
  have : bAnd .i64 0 2 = 0 := by decide
  simp [Go.Proofs.YtjdnflhejfcgdaaDoor.wrE, hi, h.spE, h.fa, this]
theorem Well.wrS {s : DevS} (h : Well s) {i : Int} (hi : thereB s i = true) {b : List Int} (hb : b.length = 128) : wrS s i b = { s with pend := s.pend ++ [(i.toNat, b)] } := by
  rw [Go.Proofs.YtjdnflhejfcgdaaDoor.wrS, if_pos ⟨hi, hb⟩, hb, if_pos (h.wrE hi), addS, h.spendS]
theorem Well.flS {s : DevS} (h : Well s) : flS s = { s with blocks := execB (fun _ => 128) s.pend s.blocks, pend := [] } := by
  rw [Go.Proofs.YtjdnflhejfcgdaaDoor.flS, if_pos h.spE, flushS, h.spendS]
theorem Well.eraseS {s : DevS} (h : Well s) : eraseS s = { s with blocks := List.replicate s.blocks.length zeros128, pend := [] } := by
  rw [Go.Proofs.YtjdnflhejfcgdaaDoor.eraseS, h.spendS]
theorem Well.setP {s : DevS} (h : Well s) (p : List (Nat × List Int)) : Well { s with pend := p } := ⟨h.bu, h.po, h.mo, h.fa⟩
theorem Well.setB {s : DevS} (h : Well s) (b : List (List Int)) (p : List (Nat × List Int)) : Well { s with blocks := b, pend := p } := ⟨h.bu, h.po, h.mo, h.fa⟩
theorem newDev_well (n : Nat) : Well (newDev n) := ⟨rfl, rfl, rfl, fun _ => rfl⟩

/-- the device that holds these blocks, and nothing waits -/
def ofB (bs : List (List Int)) : DevS := ⟨bs, [], fun _ => 0, -1, true, true⟩
theorem ofB_well (bs : List (List Int)) : Well (ofB bs) := ⟨rfl, rfl, rfl, fun _ => rfl⟩
theorem newDev_ofB (n : Nat) : newDev n = ofB (List.replicate n zeros128) := rfl
theorem cut128_128 : cut128 128 = 128 := by decide
theorem wf_well {s : DevS} (h : Well s) (hp : s.pend = []) (h0 : 0 < s.blocks.length) {b : List Int} (hb : b.length = 128) (hall : (s.blocks.getD 0 []).length = 128) :
    wfE s 0 b = 0 ∧ wfS s 0 b = { s with blocks := s.blocks.set 0 b, pend := [] } := by
  have hi : thereB s 0 = true := by simp [thereB]; omega
  have hw := h.wrS hi hb
  have hwell : Well (wrS s 0 b) := by rw [hw]; exact h.setP _
  unfold wfE wfS
  rw [hb, if_pos (h.wrE hi), if_pos (h.wrE hi)]
  refine ⟨hwell.spE, ?_⟩
  rw [hwell.flS, hw, hp]
  simp only [List.nil_append, execB, List.zipIdx_cons, List.zipIdx_nil, List.foldl_cons, List.foldl_nil, wr1, cut128_128]
  have h1 : b.take 128 = b := List.take_of_length_le (by omega)
  have h2 : (s.blocks.getD 0 []).drop 128 = [] := List.drop_of_length_le (by omega)
  show { s with blocks := s.blocks.set (Int.toNat 0) (b.take 128 ++ (s.blocks.getD (Int.toNat 0) []).drop 128), pend := [] } = _
  rw [show Int.toNat 0 = 0 from rfl, h1, h2, List.append_nil]
theorem ewf_new {s : DevS} (h : Well s) (h0 : 0 < s.blocks.length) {b : List Int} (hb : b.length = 128) :
    ewfE s b = 0 ∧ ewfS s b = { s with blocks := (List.replicate s.blocks.length zeros128).set 0 b, pend := [] } := by
  have hw := wf_well (s := eraseS s) (by rw [h.eraseS]; exact h.setB _ _) (by rw [h.eraseS]) (by rw [h.eraseS]; simpa using h0) hb (by rw [h.eraseS]; simp [List.getD, h0, zeros128])
  unfold ewfE ewfS
  rw [if_pos h.spE, if_pos h.spE]
  refine ⟨hw.1, hw.2.trans ?_⟩
  rw [h.eraseS]

theorem blank_zero {s : DevS} : ∀ {n : Nat}, (∀ k < n, rdE s ((k + 1 : Nat) : Int) = 0 ∧ clearF (rdB s ((k + 1 : Nat) : Int)) 0 = true) → blankR s n = (0, 0)
  | 0, _ => rfl
  | n + 1, h => by
    have h1 := h n (by omega)
    simp only [blankR]
    rw [if_pos h1.1, if_pos h1.2]
    exact blank_zero fun k hk => h k (by omega)
theorem blank_some {s : DevS} {j : Nat} (hj : rdE s ((j + 1 : Nat) : Int) = 0 ∧ clearF (rdB s ((j + 1 : Nat) : Int)) 0 = false) : ∀ {n : Nat}, j < n → (∀ k, j < k → k < n → rdE s ((k + 1 : Nat) : Int) = 0 ∧ clearF (rdB s ((k + 1 : Nat) : Int)) 0 = true) → blankR s n = ((j : Int) / 16 + 1, 0)
  | n + 1, hn, h => by
    simp only [blankR]
    by_cases hjn : j = n
    · subst hjn
      rw [if_pos hj.1, hj.2]; rfl
    · have h1 := h n (by omega) (by omega)
      rw [if_pos h1.1, if_pos h1.2]
      exact blank_some hj (by omega) fun k h2 h3 => h k h2 (by omega)
theorem clear_zeros : clearF zeros128 0 = true := by decide
theorem clear_all {c : Int} (h : c ≠ 0) : clearF (allB c) 0 = false := by
  simp [clearF, allB, h]
end Go.Proofs.YtjdnflhejfcgdaaDoor

/-
  The chapter's example of media, in plain words.
-/
namespace Go.Proofs.YtjdnflhejfcgdaaDoor
open Go Go.SL Go.Proofs

theorem labelF_len {vol gen : Int} (h : labMay vol gen = true) : (labelF vol gen).length = 128 := sealF_len (by rw [labelN_len h]; omega)
theorem superF_len {g : Geo} (h : mayG g = true) : (superF g).length = 128 := sealF_len (by rw [superN_len h]; omega)
theorem allB_len (c : Int) : (allB c).length = 128 := by simp [allB]
/-- a device with a first block alone -/
def headD (n : Nat) (b : List Int) : DevS := ofB ((List.replicate n zeros128).set 0 b)
theorem ewf_newDev {n : Nat} (h : 0 < n) {b : List Int} (hb : b.length = 128) : ewfE (newDev n) b = 0 ∧ ewfS (newDev n) b = headD n b := by
  have := ewf_new (newDev_well n) (by simpa [newDev] using h) hb
  refine ⟨this.1, this.2.trans ?_⟩
  simp [newDev, headD, ofB]
theorem headD_len (n : Nat) (b : List Int) : (headD n b).blocks.length = n := by simp [headD, ofB]
theorem headD_get {n : Nat} {b : List Int} {k : Nat} (h0 : 0 < k) (h : k < n) : (headD n b).blocks.getD k [] = zeros128 := by
  simp only [headD, ofB, List.getD, List.getElem?_set]
  rw [if_neg (by omega)]
  simp [h]
theorem headD_zero {n : Nat} {b : List Int} {k : Nat} (h : k + 1 < n) : rdE (headD n b) ((k + 1 : Nat) : Int) = 0 ∧ clearF (rdB (headD n b) ((k + 1 : Nat) : Int)) 0 = true := by
  have hi : thereB (headD n b) ((k + 1 : Nat) : Int) = true := by simp [thereB, headD_len]; omega
  refine ⟨(ofB_well _).rdE hi, ?_⟩
  have hw : Well (headD n b) := ofB_well _
  rw [hw.rdB hi]
  have hc : curB (headD n b) ((k + 1 : Nat) : Int) = zeros128 := by
    unfold curB
    rw [show lastAt (headD n b).pend ((k + 1 : Nat) : Int) = none from rfl]
    simp only [Int.toNat_natCast, headD, ofB, List.getD, List.getElem?_set]
    simp [show k + 1 < n from h]
  rw [hc]; exact clear_zeros

theorem awake21_facts : ∃ S0 S0' S0'' S1 SD : DevS, (ewfE (newDev 49) (labelF 0 0) = 0 ∧ ewfS (newDev 49) (labelF 0 0) = S0) ∧ (ewfE (newDev 49) (labelF 1 0) = 0 ∧ ewfS (newDev 49) (labelF 1 0) = S1) ∧ (ewfE (newDev 176) (superF someG) = 0 ∧ ewfS (newDev 176) (superF someG) = SD) ∧
    (S0.blocks.length = 49 ∧ S1.blocks.length = 49 ∧ S0'.blocks.length = 49 ∧ S0''.blocks.length = 49 ∧ S0.pend.length ≤ 1000000000 ∧ S1.pend.length ≤ 1000000000 ∧ SD.pend.length ≤ 1000000000) ∧
    (∀ a0 a1 : Nat, blMR [(a0, S0), (a1, S1)] 0 = (0, 0)) ∧ (∀ a0 a1 : Nat, wrME someG SD [(a0, S0), (a1, S1)] 161 128 = 0 ∧ wrMV someG [(a0, S0), (a1, S1)] 161 (allB 7) = [(a0, S0'), (a1, S1)]) ∧ wrMD someG SD 161 (allB 7) = SD ∧
    (∀ a0 a1 : Nat, rdME someG SD [(a0, S0'), (a1, S1)] 161 = 0 ∧ rdMB someG SD [(a0, S0'), (a1, S1)] 161 = allB 7) ∧ (∀ a0 a1 : Nat, blMR [(a0, S0'), (a1, S1)] 0 = (1, 0)) ∧
    (spE S0' = 0 ∧ wfE (eraseS S0') 0 (labelF 0 1) = 0 ∧ wfS (eraseS S0') 0 (labelF 0 1) = S0'') ∧ (∀ a0 a1 : Nat, blMR [(a0, S0''), (a1, S1)] 0 = (0, 0)) := by
  have hwh : whereOf someG 161 = (⟨0, 0, 0⟩, 0) := by decide
  have hl00 : labMay 0 0 = true := by decide
  have hl10 : labMay 1 0 = true := by decide
  have hl01 : labMay 0 1 = true := by decide
  have hS0w : Well (headD 49 (labelF 0 0)) := ofB_well _
  have hth : thereB (headD 49 (labelF 0 0)) 1 = true := by simp [thereB, headD_len]
  have hw := hS0w.wrS hth (allB_len 7)
  have hS0'w : Well (wrS (headD 49 (labelF 0 0)) 1 (allB 7)) := by rw [hw]; exact hS0w.setP _
  have hblk : (wrS (headD 49 (labelF 0 0)) 1 (allB 7)).blocks = (headD 49 (labelF 0 0)).blocks := by rw [hw]
  have hpend : (wrS (headD 49 (labelF 0 0)) 1 (allB 7)).pend = [(1, allB 7)] := by rw [hw]; rfl
  have hth2 : ∀ i : Int, 0 ≤ i → i < 49 → thereB (wrS (headD 49 (labelF 0 0)) 1 (allB 7)) i = true := fun i h1 h2 => by simp [thereB, hblk, headD_len]; omega
  have hcur1 : curB (wrS (headD 49 (labelF 0 0)) 1 (allB 7)) 1 = allB 7 := by unfold curB; rw [hpend]; rfl
  have hcurk : ∀ k, 0 < k → k < 48 → curB (wrS (headD 49 (labelF 0 0)) 1 (allB 7)) ((k + 1 : Nat) : Int) = zeros128 := fun k h1 h2 => by
    unfold curB
    rw [hpend, hblk]
    have : lastAt [(1, allB 7)] ((k + 1 : Nat) : Int) = none := by
      have := lastAt_snoc [] (1, allB 7) ((k + 1 : Nat) : Int)
      rw [List.nil_append] at this
      rw [this, if_neg (by simp only; omega)]; rfl
    rw [this]
    exact headD_get (by omega) (by omega)
  have her : eraseS (wrS (headD 49 (labelF 0 0)) 1 (allB 7)) = newDev 49 := by
    rw [hS0'w.eraseS, hblk, headD_len, hw]
    simp [headD, ofB, newDev]
  have hwf := wf_well (newDev_well 49) rfl (by simp [newDev]) (labelF_len hl01) (by simp [newDev, zeros128])
  have hb0 : blankR (headD 49 (labelF 0 0)) 48 = (0, 0) := blank_zero fun k hk => headD_zero (by omega)
  have hb2 : blankR (headD 49 (labelF 0 1)) 48 = (0, 0) := blank_zero fun k hk => headD_zero (by omega)
  have e0 := ewf_newDev (n := 49) (by omega) (labelF_len hl00)
  have e1 := ewf_newDev (n := 49) (by omega) (labelF_len hl10)
  have eD := ewf_newDev (n := 176) (by omega) (superF_len (g := someG) (by decide))
  have l0 := headD_len 49 (labelF 0 0)
  have l1 := headD_len 49 (labelF 1 0)
  have l2 := headD_len 49 (labelF 0 1)
  have p0 : (headD 49 (labelF 0 0)).pend.length ≤ 1000000000 := by simp [headD, ofB]
  have p1 : (headD 49 (labelF 1 0)).pend.length ≤ 1000000000 := by simp [headD, ofB]
  have pD : (headD 176 (superF someG)).pend.length ≤ 1000000000 := by simp [headD, ofB]
  have w1 := hS0w.wrE hth
  have hr2 : wfS (eraseS (wrS (headD 49 (labelF 0 0)) 1 (allB 7))) 0 (labelF 0 1) = headD 49 (labelF 0 1) := by rw [her, hwf.2]; rfl
  have hr1 : wfE (eraseS (wrS (headD 49 (labelF 0 0)) 1 (allB 7))) 0 (labelF 0 1) = 0 := by rw [her]; exact hwf.1
  rw [← hblk] at l0
  clear hpend her hwf hw
  generalize hS' : wrS (headD 49 (labelF 0 0)) 1 (allB 7) = S0' at *
  rw [hblk] at l0
  have l0' : S0'.blocks.length = 49 := by rw [hblk]; exact l0
  generalize headD 49 (labelF 0 0) = S0 at *
  generalize headD 49 (labelF 1 0) = S1 at *
  generalize headD 49 (labelF 0 1) = S2 at *
  generalize headD 176 (superF someG) = SD at *
  have hdev : ∀ (X : DevS) (a0 a1 : Nat), devOf SD [(a0, X), (a1, S1)] 0 = X := fun X a0 a1 => by simp [devOf]
  have hidx : idxAt ⟨0, 0, 0⟩ = 1 := by decide
  have hbl : ∀ (X : DevS) (a0 a1 : Nat), X.blocks.length = 49 → blMR [(a0, X), (a1, S1)] 0 = blankR X 48 := fun X a0 a1 h => by simp [blMR, h]
  refine ⟨S0, S0', S2, S1, SD, e0, e1, eD, ⟨l0, l1, l0', l2, p0, p1, pD⟩, fun a0 a1 => ?_, fun a0 a1 => ⟨?_, ?_⟩, ?_, fun a0 a1 => ⟨?_, ?_⟩, fun a0 a1 => ?_, ⟨hS0'w.spE, hr1, hr2⟩, fun a0 a1 => ?_⟩
  · rw [hbl _ _ _ l0, hb0]
  · unfold wrME; rw [hwh, if_pos rfl]; dsimp only; rw [hdev, hidx]; exact w1
  · unfold wrMV; rw [hwh, if_pos ⟨rfl, by simp only; omega⟩]; dsimp only; rw [hidx]
    simp only [setV]
    rw [← hS']; rfl
  · unfold wrMD; rw [hwh, if_neg (by simp)]
  · unfold rdME; rw [hwh, if_pos rfl]; dsimp only; rw [hdev, hidx]
    exact hS0'w.rdE (hth2 1 (by omega) (by omega))
  · unfold rdMB; rw [hwh, if_pos rfl]; dsimp only; rw [hdev, hidx]
    exact (hS0'w.rdB (hth2 1 (by omega) (by omega))).trans hcur1
  · have h1 : blankR S0' 48 = (((0 : Nat) : Int) / 16 + 1, 0) := by
      refine blank_some (j := 0) ⟨hS0'w.rdE (hth2 _ (by omega) (by omega)), ?_⟩ (by omega) fun k h1 h2 => ⟨hS0'w.rdE (hth2 _ (by omega) (by omega)), ?_⟩
      · rw [hS0'w.rdB (hth2 _ (by omega) (by omega))]
        rw [show ((0 + 1 : Nat) : Int) = 1 from rfl, hcur1]
        exact clear_all (by decide)
      · rw [hS0'w.rdB (hth2 _ (by omega) (by omega)), hcurk k h1 h2]; exact clear_zeros
    rw [hbl _ _ _ l0', h1]; rfl
  · rw [hbl _ _ _ l2, hb2]
end Go.Proofs.YtjdnflhejfcgdaaDoor

/-
  What was sealed is read again.
-/
namespace Go.Proofs.YtjdnflhejfcgdaaDoor
open Go Go.SL Go.Proofs

theorem or_add {a b : Int} (ha : 0 ≤ a) (hb : 0 ≤ b ∧ b < 256) (h : a * 256 + b < 18446744073709551616) : bOr .u64 (a * 256) b = a * 256 + b := by
  obtain ⟨n, rfl⟩ := Int.eq_ofNat_of_zero_le ha
  obtain ⟨m, rfl⟩ := Int.eq_ofNat_of_zero_le hb.1
  have h1 : n * 256 + m < 18446744073709551616 := by omega
  have h2 : (BitVec.ofInt IntKind.u64.bits ((n : Int) * 256) ||| BitVec.ofInt IntKind.u64.bits (m : Int)).toNat = n * 256 + m := by
    rw [BitVec.toNat_or]
    have e1 : (BitVec.ofInt IntKind.u64.bits ((n : Int) * 256)).toNat = n * 256 := by
      rw [BitVec.toNat_ofInt]
      show (((n : Int) * 256) % ((2 ^ 64 : Nat) : Int)).toNat = _
      omega
    have e2 : (BitVec.ofInt IntKind.u64.bits (m : Int)).toNat = m := by
      rw [BitVec.toNat_ofInt]
      show ((m : Int) % ((2 ^ 64 : Nat) : Int)).toNat = _
      omega
    rw [e1, e2]
    have := Nat.two_pow_add_eq_or_of_lt (i := 8) (b := m) (by omega) n
    rw [show 2 ^ 8 * n = n * 256 by omega] at this
    exact this.symm
  unfold bOr
  rw [h2, wrap_u64_of (by omega)]
  omega
theorem getN_cons {v z : Int} {r : List Int} (hv : 0 ≤ v ∧ v < 72057594037927936) (hz : 0 ≤ z ∧ z < 256) : getN v (z :: r) = getN (v * 256 + z) r := by
  show getN (bOr .u64 (bShl .u64 v 8) (IntKind.u64.wrap z)) r = _
  have h1 : bShl .u64 v 8 = v * 256 := by
    unfold bShl
    show IntKind.u64.wrap (v * 2 ^ 8) = _
    rw [wrap_u64_of (by omega)]; omega
  rw [h1, wrap_u64_of (by omega), or_add hv.1 hz (by omega)]
theorem byte_at {v : Int} (hv : 0 ≤ v) (k : Nat) (hk : k < 8) : IntKind.u8.wrap (bShr .u64 v (8 * (k : Int))) = v / (2 ^ (8 * k) : Nat) % 256 := by
  unfold bShr
  have h1 : min (8 * (k : Int)).toNat IntKind.u64.bits = 8 * k := by show min (8 * (k : Int)).toNat 64 = _; omega
  rw [h1, Int.fdiv_eq_ediv_of_nonneg _ (Int.pow_nonneg (by omega))]
  have h2 : ((2 : Int) ^ (8 * k)) = ((2 ^ (8 * k) : Nat) : Int) := by simp
  rw [h2]
  simp [IntKind.wrap, IntKind.bits, IntKind.signed]

theorem numB1 {v : Int} (h : 0 ≤ v ∧ v < 256) : numB ⟨1, v⟩ = [v] := by
  show [IntKind.u8.wrap (bShr .u64 v (8 * (((0 : Nat) : Int))))] = _
  rw [byte_at h.1 0 (by omega)]
  congr 1; (simp <;> omega)
theorem numB2 {v : Int} (h : 0 ≤ v ∧ v < 65536) : numB ⟨2, v⟩ = [v / 256, v % 256] := by
  show [IntKind.u8.wrap (bShr .u64 v (8 * (((1 : Nat) : Int)))), IntKind.u8.wrap (bShr .u64 v (8 * (((0 : Nat) : Int))))] = _
  rw [byte_at h.1 0 (by omega), byte_at h.1 1 (by omega)]
  simp only [Nat.mul_one, Nat.mul_zero, Nat.reducePow, Int.cast_ofNat_Int]
  rw [show v / 256 % 256 = v / 256 by omega]
  simp
theorem numB4 {v : Int} (h : 0 ≤ v ∧ v < 4294967296) : numB ⟨4, v⟩ = [v / 16777216, v / 65536 % 256, v / 256 % 256, v % 256] := by
  show [IntKind.u8.wrap (bShr .u64 v (8 * (((3 : Nat) : Int)))), IntKind.u8.wrap (bShr .u64 v (8 * (((2 : Nat) : Int)))), IntKind.u8.wrap (bShr .u64 v (8 * (((1 : Nat) : Int)))), IntKind.u8.wrap (bShr .u64 v (8 * (((0 : Nat) : Int))))] = _
  rw [byte_at h.1 0 (by omega), byte_at h.1 1 (by omega), byte_at h.1 2 (by omega), byte_at h.1 3 (by omega)]
  have e0 : v / ((2 ^ (8 * 0) : Nat) : Int) % 256 = v % 256 := by simp
  have e1 : v / ((2 ^ (8 * 1) : Nat) : Int) % 256 = v / 256 % 256 := by simp
  have e2 : v / ((2 ^ (8 * 2) : Nat) : Int) % 256 = v / 65536 % 256 := by simp
  have e3 : v / ((2 ^ (8 * 3) : Nat) : Int) % 256 = v / 16777216 := by
    rw [show ((2 ^ (8 * 3) : Nat) : Int) = 16777216 from rfl]; omega
  rw [e0, e1, e2, e3]
theorem getN_nil (v : Int) : getN v [] = v := rfl
theorem getN1 {v : Int} (h : 0 ≤ v ∧ v < 256) : getN 0 [v] = v := by
  rw [getN_cons (by omega) (by omega), getN_nil]; omega
theorem getN2 {v : Int} (h : 0 ≤ v ∧ v < 65536) : getN 0 [v / 256, v % 256] = v := by
  rw [getN_cons (by omega) (by omega), getN_cons (by omega) (by omega), getN_nil]; omega
theorem getN4 {v : Int} (h : 0 ≤ v ∧ v < 4294967296) : getN 0 [v / 16777216, v / 65536 % 256, v / 256 % 256, v % 256] = v := by
  rw [getN_cons (by omega) (by omega), getN_cons (by omega) (by omega), getN_cons (by omega) (by omega), getN_cons (by omega) (by omega), getN_nil]; omega

theorem seal_take {l : List Int} (h : l.length ≤ 124) : (sealF l).take 124 = padF 124 l := by
  have := padF_len h
  unfold sealF
  rw [List.take_append_of_le_length (by omega), List.take_of_length_le (by omega)]
theorem clear_pad {l : List Int} (h : l.length ≤ 124) : clearF (padF 124 l) (l.length : Int) = true := by
  simp only [clearF, padF_len h, Bool.and_eq_true, decide_eq_true_eq, List.all_eq_true, Int.toNat_natCast]
  refine ⟨by omega, fun z hz => ?_⟩
  unfold padF at hz
  rw [List.drop_left] at hz
  exact (List.mem_replicate.1 hz).2
/-- a record that begins with a mark of four octets -/
theorem readF_seal {l : List Int} {mark : Int} {ws : List Int} {us : List Int} (h124 : l.length ≤ 124) (h4 : getN 0 ((padF 124 l).take 4) = mark) (hlen : (l.length : Int) = 4 + ws.sum) (hu : (unpackF ((padF 124 l).drop 4) ws).map IntKind.i64.wrap = us) : readF (sealF l) mark ws = (us, 0) := by
  have h1 := padF_len h124
  unfold readF
  rw [if_pos (held_seal h124), seal_take h124]
  have h2 : (sealF l).take 4 = (padF 124 l).take 4 := by
    rw [← seal_take h124, List.take_take]; rfl
  rw [h2, if_pos h4, ← hlen, if_pos (clear_pad h124), hu]

theorem packF_super {g : Geo} (h : mayG g = true) : packF (superN g) = [104, 97, 121, 109, g.disk / 256, g.disk % 256, g.lines / 256, g.lines % 256, g.vols, g.segs / 256, g.segs % 256] := by
  have hg := mayG_is h
  simp only [packF, superN, List.flatMap_cons, List.flatMap_nil]
  rw [numB4 (by omega), numB2 (v := g.disk) (by omega), numB2 (v := g.lines) (by omega), numB1 (by omega), numB2 (v := g.segs) (by omega)]
  rfl
theorem readSuper_super {g : Geo} (h : mayG g = true) : readSuperF (superF g) = (g, 0) := by
  have hg := mayG_is h
  have hp := packF_super h
  have hr : readF (superF g) 1751218541 [2, 2, 1, 2] = ([g.disk, g.lines, g.vols, g.segs], 0) := by
    unfold superF
    rw [hp]
    refine readF_seal (by simp) (show getN 0 [104, 97, 121, 109] = 1751218541 by decide) (by simp) ?_
    show [IntKind.i64.wrap (getN 0 [g.disk / 256, g.disk % 256]), IntKind.i64.wrap (getN 0 [g.lines / 256, g.lines % 256]), IntKind.i64.wrap (getN 0 [g.vols]), IntKind.i64.wrap (getN 0 [g.segs / 256, g.segs % 256])] = _
    rw [getN2 (by omega), getN2 (by omega), getN1 (by omega), getN2 (by omega), wrap_i64_of (by omega), wrap_i64_of (by omega), wrap_i64_of (by omega), wrap_i64_of (by omega)]
  unfold readSuperF
  rw [hr]
  simp [h]
theorem packF_label {vol gen : Int} (h : labMay vol gen = true) : packF (labelN vol gen) = [104, 118, 111, 108, vol, gen / 16777216, gen / 65536 % 256, gen / 256 % 256, gen % 256] := by
  simp only [labMay, decide_eq_true_eq] at h
  simp only [packF, labelN, List.flatMap_cons, List.flatMap_nil]
  rw [numB4 (by omega), numB1 (by omega), numB4 (v := gen) (by omega)]
  rfl
theorem readLabel_label {vol gen : Int} (h : labMay vol gen = true) : readLabelF (labelF vol gen) = (vol, gen, 0) := by
  have hp := packF_label h
  have h' := h
  simp only [labMay, decide_eq_true_eq] at h
  have hr : readF (labelF vol gen) 1752592236 [1, 4] = ([vol, gen], 0) := by
    unfold labelF
    rw [hp]
    refine readF_seal (by simp) (show getN 0 [104, 118, 111, 108] = 1752592236 by decide) (by simp) ?_
    show [IntKind.i64.wrap (getN 0 [vol]), IntKind.i64.wrap (getN 0 [gen / 16777216, gen / 65536 % 256, gen / 256 % 256, gen % 256])] = _
    rw [getN1 (by omega), getN4 (by omega), wrap_i64_of (by omega), wrap_i64_of (by omega)]
  unfold readLabelF
  rw [hr]
  simp [h']
theorem held_zeros : heldF zeros128 = false := by decide +kernel
theorem readSuper_zeros : (readSuperF zeros128).2 = 5 := by
  unfold readSuperF readF
  rw [held_zeros]; rfl
end Go.Proofs.YtjdnflhejfcgdaaDoor

/-
  What a medium has, address by address.
-/
namespace Go.Proofs.YtjdnflhejfcgdaaDoor
open Go Go.SL Go.Proofs

theorem curB_add (s : DevS) (i : Nat) (b : List Int) (j : Int) : curB { s with pend := s.pend ++ [(i, b)] } j = if (i : Int) = j then b else curB s j := by
  unfold curB
  simp only [lastAt_snoc]
  split
  · rename_i k h1
    split at h1
    · obtain rfl := Option.some.inj h1
      rw [if_pos ‹_›]
      simp [List.getD]
    · rw [if_neg ‹_›]
      obtain ⟨x, hx, _⟩ := lastAt_some h1
      have hk : k < s.pend.length := (List.getElem?_eq_some_iff.1 hx).1
      rw [h1]
      simp only [List.getD, List.getElem?_append_left hk]
  · rename_i h1
    split at h1
    · cases h1
    · rw [if_neg ‹_›, h1]
theorem execB_get {bs : List (List Int)} (h : ∀ l ∈ bs, l.length = 128) : ∀ {p : List (Nat × List Int)}, (∀ x ∈ p, x.2.length = 128 ∧ x.1 < bs.length) → ∀ j : Int, 0 ≤ j → j < bs.length →
    (execB (fun _ => 128) p bs).getD j.toNat [] = match lastAt p j with | some k => (p.getD k (0, [])).2 | none => bs.getD j.toNat [] := by
  suffices H : ∀ q : List (Nat × List Int), (∀ x ∈ q.reverse, x.2.length = 128 ∧ x.1 < bs.length) → ∀ j : Int, 0 ≤ j → j < bs.length →
    (execB (fun _ => 128) q.reverse bs).getD j.toNat [] = match lastAt q.reverse j with | some k => (q.reverse.getD k (0, [])).2 | none => bs.getD j.toNat [] by
    intro p hp j h1 h2
    have := H p.reverse (by simpa using hp) j h1 h2
    rwa [List.reverse_reverse] at this
  intro q
  induction q with
  | nil => intro _ j h1 h2; simp [lastAt, execB]
  | cons x r ih =>
    intro hp j h1 h2
    rw [List.reverse_cons] at hp ⊢
    have hr : ∀ y ∈ r.reverse, y.2.length = 128 ∧ y.1 < bs.length := fun y hy => hp y (List.mem_append_left _ hy)
    have hx := hp x (by simp)
    have ih' := ih hr j h1 h2
    rw [execB_snoc, lastAt_snoc]
    have hlen := execB_len (fun _ => (128 : Int)) r.reverse bs
    have h128 := execB_128 (fun _ => (128 : Int)) h hr r.reverse.length (Nat.le_refl _)
    rw [List.take_length] at h128
    unfold wr1
    rw [cut128_128, List.take_of_length_le (by omega)]
    have hd : ((execB (fun _ => 128) r.reverse bs).getD x.1 []).drop 128 = [] := by
      apply List.drop_of_length_le
      have hl : x.1 < (execB (fun _ => 128) r.reverse bs).length := by omega
      simp only [List.getD, List.getElem?_eq_getElem hl, Option.getD_some]
      exact Nat.le_of_eq (h128 _ (List.getElem_mem hl))
    rw [hd, List.append_nil]
    by_cases hj : (x.1 : Int) = j
    · rw [if_pos hj]
      have : j.toNat = x.1 := by omega
      rw [this]
      simp [List.getD, hlen, hx.2]
    · rw [if_neg hj]
      have : x.1 ≠ j.toNat := by omega
      simp only [List.getD, List.getElem?_set, this, if_false]
      simp only [List.getD] at ih'
      rw [ih']
      rcases hla : lastAt r.reverse j with _ | k
      · rfl
      · obtain ⟨y, hy, _⟩ := lastAt_some hla
        have hk : k < r.reverse.length := (List.getElem?_eq_some_iff.1 hy).1
        simp only [List.getElem?_append_left hk]
theorem lastAt_nil (j : Int) : lastAt [] j = none := rfl
theorem curB_flush {s : DevS} (h : s.OK) {j : Int} (hj : thereB s j = true) : curB { s with blocks := execB (fun _ => 128) s.pend s.blocks, pend := [] } j = curB s j := by
  simp only [thereB, decide_eq_true_eq] at hj
  unfold curB
  rw [lastAt_nil]
  dsimp only
  rw [execB_get h.b128 h.p128 j hj.1 (by omega)]; rfl
theorem curB_clean {s : DevS} (h : s.pend = []) (j : Int) : curB s j = s.blocks.getD j.toNat [] := by
  unfold curB; rw [h]; rfl
theorem execB_zero (p : List (Nat × List Int)) (bs : List (List Int)) : execB (fun _ => 0) p bs = bs := by
  unfold execB
  generalize p.zipIdx = l
  induction l generalizing bs with
  | nil => rfl
  | cons x r ih =>
    rw [List.foldl_cons]
    have : wr1 bs x.1 0 = bs := by
      unfold wr1
      have : cut128 0 = 0 := by decide
      rw [this, List.take_zero, List.nil_append, List.drop_zero]
      by_cases hx : x.1.1 < bs.length
      · simp [List.getD, hx]
      · rw [List.set_eq_of_length_le (by omega)]
    rw [this]; exact ih bs
theorem crash_none {s : DevS} (h : Well s) : onS (crashS s []) = { s with pend := [] } := by
  obtain ⟨bs, p, fl, bu, po, mo⟩ := s
  obtain ⟨rfl, rfl, rfl, _⟩ := h
  simp only [onS, crashS, List.getD_nil, execB_zero]
theorem crash_clean {s : DevS} (h : Well s) (hp : s.pend = []) (far : List Int) : onS (crashS s far) = s := by
  obtain ⟨bs, p, fl, bu, po, mo⟩ := s
  obtain ⟨rfl, rfl, rfl, _⟩ := h
  dsimp only at hp
  subst hp
  rfl

/-- the address ahead of the first one of volume k -/
def volBase (g : Geo) (k : Nat) : Int := g.disk * 16 + k * (g.segs * 16)
theorem volBase_inj {g : Geo} {k v : Nat} {i j : Int} (hi : 1 ≤ i ∧ i ≤ g.segs * 16) (hj : 1 ≤ j ∧ j ≤ g.segs * 16) (h : volBase g k + j = volBase g v + i) : k = v ∧ j = i := by
  unfold volBase at h
  have key : ∀ (a b : Nat), a < b → (a : Int) * (g.segs * 16) + g.segs * 16 ≤ (b : Int) * (g.segs * 16) := fun a b hab => by
    have : ((a : Int) + 1) * (g.segs * 16) ≤ (b : Int) * (g.segs * 16) := Int.mul_le_mul_of_nonneg_right (by omega) (by omega)
    rw [Int.add_mul] at this; omega
  rcases Nat.lt_trichotomy k v with h1 | h1 | h1
  · have := key k v h1; omega
  · subst h1; exact ⟨rfl, by omega⟩
  · have := key v k h1; omega
theorem volBase_ge {g : Geo} (h : mayG g = true) (k : Nat) : g.disk * 16 ≤ volBase g k := by
  have := mayG_is h
  have : 0 ≤ (k : Int) * (g.segs * 16) := Int.mul_nonneg (by omega) (by omega)
  unfold volBase; omega
theorem blocksG_is {g : Geo} (h : mayG g = true) : blocksG g = g.disk * 16 + g.vols * (g.segs * 16) := by
  unfold blocksG segsG; rw [if_pos h, Int.add_mul, Int.mul_assoc]

/-- where an address lies -/
theorem where_in {g : Geo} (hm : mayG g = true) {a : Int} (h : 1 ≤ a ∧ a ≤ blocksG g) : (whereOf g a).2 = 0 ∧
    (((whereOf g a).1.vol = -1 ∧ idxAt (whereOf g a).1 = a + 15 ∧ a ≤ g.disk * 16) ∨
     ∃ k : Nat, (whereOf g a).1.vol = k ∧ (k : Int) < g.vols ∧ 1 ≤ idxAt (whereOf g a).1 ∧ idxAt (whereOf g a).1 ≤ g.segs * 16 ∧ a = volBase g k + idxAt (whereOf g a).1) := by
  have hg := mayG_is hm
  have hb := blocksG_is hm
  have hs : segOf g a = ((a - 1) / 16, 0) := by unfold segOf; rw [if_pos hm, if_pos h]
  unfold whereOf
  rw [hs]
  dsimp only
  rw [if_pos rfl]
  by_cases hlt : (a - 1) / 16 < g.disk
  · rw [if_pos hlt]
    refine ⟨rfl, .inl ⟨rfl, ?_, by omega⟩⟩
    simp only [idxAt]
    rw [if_pos (by omega)]
    omega
  · rw [if_neg hlt]
    have hq0 : 0 ≤ ((a - 1) / 16 - g.disk) / g.segs := Int.ediv_nonneg (by omega) (by omega)
    have hr0 := Int.emod_nonneg ((a - 1) / 16 - g.disk) (show g.segs ≠ 0 by omega)
    have hr1 := Int.emod_lt_of_pos ((a - 1) / 16 - g.disk) (show 0 < g.segs by omega)
    have hdm := Int.mul_ediv_add_emod ((a - 1) / 16 - g.disk) g.segs
    have hq1 : ((a - 1) / 16 - g.disk) / g.segs < g.vols := by
      apply Int.ediv_lt_of_lt_mul (by omega)
      have : a - 1 < (g.disk + g.vols * g.segs) * 16 := by rw [Int.add_mul, Int.mul_assoc]; omega
      omega
    generalize hq : ((a - 1) / 16 - g.disk) / g.segs = q at *
    generalize hr : ((a - 1) / 16 - g.disk) % g.segs = r at *
    obtain ⟨k, rfl⟩ := Int.eq_ofNat_of_zero_le hq0
    refine ⟨rfl, .inr ⟨k, rfl, hq1, ?_⟩⟩
    simp only [idxAt]
    rw [if_neg (by omega)]
    refine ⟨by omega, by omega, ?_⟩
    unfold volBase
    have e1 : (k : Int) * (g.segs * 16) = g.segs * k * 16 := by rw [Int.mul_comm g.segs k, Int.mul_assoc]
    have e2 : (a - 1) / 16 = g.disk + g.segs * k + r := by omega
    have e3 : a - 1 = 16 * ((a - 1) / 16) + (a - 1) % 16 := (Int.mul_ediv_add_emod (a - 1) 16).symm
    rw [e2] at e3
    rw [e1]
    generalize (a - 1) % 16 = o at *
    generalize g.segs * (k : Int) = m at *
    omega

/-- nothing fails; the first blocks are the chapter's; address a has (val a) -/
structure MV (g : Geo) (gens : List Int) (s : DevS) (vl : List (Nat × DevS)) (val : Int → List Int) : Prop where
  may : mayG g = true
  ok : s.OK
  w : Well s
  n : (s.blocks.length : Int) = 16 + g.disk * 16
  okv : ∀ x ∈ vl, x.2.OK
  wv : ∀ x ∈ vl, Well x.2
  nv : ∀ x ∈ vl, (x.2.blocks.length : Int) = 1 + g.segs * 16
  lv : (vl.length : Int) = g.vols
  hs : curB s 0 = superF g
  hv : ∀ k (h : k < vl.length), curB vl[k].2 0 = labelF k (gens.getD k 0)
  gv : ∀ k, k < vl.length → labMay k (gens.getD k 0) = true
  atd : ∀ a, 1 ≤ a → a ≤ g.disk * 16 → curB s (a + 15) = val a
  atv : ∀ k (h : k < vl.length) i, 1 ≤ i → i ≤ g.segs * 16 → curB vl[k].2 i = val (volBase g k + i)

def updA (val : Int → List Int) (a : Int) (b : List Int) : Int → List Int := fun c => if c = a then b else val c

section
variable {g : Geo} {gens : List Int} {s : DevS} {vl : List (Nat × DevS)} {val : Int → List Int}
theorem MV.at_ (h : MV g gens s vl val) {a : Int} (ha : 1 ≤ a ∧ a ≤ blocksG g) : (whereOf g a).2 = 0 ∧ Well (devOf s vl (whereOf g a).1.vol) ∧ (devOf s vl (whereOf g a).1.vol).OK ∧ thereB (devOf s vl (whereOf g a).1.vol) (idxAt (whereOf g a).1) = true ∧ curB (devOf s vl (whereOf g a).1.vol) (idxAt (whereOf g a).1) = val a := by
  obtain ⟨h0, ⟨h1, h2, h3⟩ | ⟨k, h1, h2, h3, h4, h5⟩⟩ := where_in h.may ha
  · have hd : devOf s vl (whereOf g a).1.vol = s := by rw [h1]; rfl
    rw [hd, h2]
    refine ⟨h0, h.w, h.ok, ?_, h.atd a ha.1 h3⟩
    have := h.n
    simp [thereB]; omega
  · have hl := h.lv
    have hk : k < vl.length := by omega
    have hd : devOf s vl (whereOf g a).1.vol = vl[k].2 := by
      rw [h1]; unfold devOf
      rw [if_neg (by omega)]
      simp [List.getD, hk]
    rw [hd]
    have hm := List.getElem_mem hk
    refine ⟨h0, h.wv _ hm, h.okv _ hm, ?_, ?_⟩
    · have := h.nv _ hm
      simp [thereB]; omega
    · rw [h.atv k hk _ h3 h4, ← h5]
theorem MV.read (h : MV g gens s vl val) {a : Int} (ha : 1 ≤ a ∧ a ≤ blocksG g) : rdME g s vl a = 0 ∧ rdMB g s vl a = val a ∧ (val a).length = 128 := by
  obtain ⟨h0, h1, h2, h3, h4⟩ := h.at_ ha
  unfold rdME rdMB
  rw [if_pos h0, if_pos h0, ← h4]
  exact ⟨h1.rdE h3, h1.rdB h3, curB_len h2 h3⟩
theorem MV.wrME (h : MV g gens s vl val) {a : Int} (ha : 1 ≤ a ∧ a ≤ blocksG g) : wrME g s vl a 128 = 0 := by
  obtain ⟨h0, h1, h2, h3, h4⟩ := h.at_ ha
  unfold Go.Proofs.YtjdnflhejfcgdaaDoor.wrME
  rw [if_pos h0]
  exact h1.wrE h3
theorem MV.write (h : MV g gens s vl val) {a : Int} (ha : 1 ≤ a ∧ a ≤ blocksG g) {b : List Int} (hb : b.length = 128) : MV g gens (wrMD g s a b) (wrMV g vl a b) (updA val a b) := by
  have hg := mayG_is h.may
  obtain ⟨h0, ⟨h1, h2, h3⟩ | ⟨k, h1, h2, h3, h4, h5⟩⟩ := where_in h.may ha
  · have e1 : wrMD g s a b = wrS s (a + 15) b := by unfold wrMD; rw [if_pos ⟨h0, by omega⟩, h2]
    have e2 : wrMV g vl a b = vl := by unfold wrMV; rw [if_neg (by omega)]
    have ht : thereB s (a + 15) = true := by have := h.n; simp [thereB]; omega
    have hw := h.w.wrS ht hb
    have hok := wrS_OK h.ok (a + 15) b
    rw [e1, e2]
    rw [hw] at hok ⊢
    refine ⟨h.may, hok, h.w.setP _, h.n, h.okv, h.wv, h.nv, h.lv, ?_, h.hv, h.gv, ?_, ?_⟩
    · rw [curB_add, if_neg (by omega)]; exact h.hs
    · intro c c1 c2
      rw [curB_add]
      unfold updA
      by_cases hc : c = a
      · rw [if_pos hc, if_pos (by omega)]
      · rw [if_neg hc, if_neg (by omega)]; exact h.atd c c1 c2
    · intro j hj i i1 i2
      have := volBase_ge h.may j
      unfold updA
      rw [if_neg (by omega)]; exact h.atv j hj i i1 i2
  · have hl := h.lv
    have hk : k < vl.length := by omega
    have hmem := List.getElem_mem hk
    generalize hi : idxAt (whereOf g a).1 = i at *
    have e1 : wrMD g s a b = s := by unfold wrMD; rw [if_neg (by omega)]
    have ht : thereB vl[k].2 i = true := by have := h.nv _ hmem; simp [thereB]; omega
    have hw := (h.wv _ hmem).wrS ht hb
    have hok := wrS_OK (h.okv _ hmem) i b
    have e2 : wrMV g vl a b = vl.set k (vl[k].1, { vl[k].2 with pend := vl[k].2.pend ++ [(i.toNat, b)] }) := by
      unfold wrMV
      rw [if_pos ⟨h0, by omega⟩, h1, Int.toNat_natCast, setV_set hk, hi, hw]
    rw [e1, e2]
    rw [hw] at hok
    have hall : ∀ x ∈ vl.set k (vl[k].1, { vl[k].2 with pend := vl[k].2.pend ++ [(i.toNat, b)] }), x ∈ vl ∨ x = (vl[k].1, { vl[k].2 with pend := vl[k].2.pend ++ [(i.toNat, b)] }) := fun x hx => List.mem_or_eq_of_mem_set hx
    refine ⟨h.may, h.ok, h.w, h.n, ?_, ?_, ?_, by rw [List.length_set]; exact h.lv, h.hs, ?_, ?_, ?_, ?_⟩
    · intro x hx
      rcases hall x hx with hx | rfl
      · exact h.okv x hx
      · exact hok
    · intro x hx
      rcases hall x hx with hx | rfl
      · exact h.wv x hx
      · exact (h.wv _ hmem).setP _
    · intro x hx
      rcases hall x hx with hx | rfl
      · exact h.nv x hx
      · have := h.nv _ hmem; simpa using this
    · intro j hj
      rw [List.length_set] at hj
      rw [List.getElem_set]
      by_cases hjk : k = j
      · subst hjk
        rw [if_pos rfl, curB_add, if_neg (by omega)]; exact h.hv k hk
      · rw [if_neg hjk]; exact h.hv j hj
    · intro j hj; rw [List.length_set] at hj; exact h.gv j hj
    · intro c c1 c2
      have := volBase_ge h.may k
      unfold updA
      rw [if_neg (by omega)]; exact h.atd c c1 c2
    · intro j hj c c1 c2
      rw [List.length_set] at hj
      rw [List.getElem_set]
      unfold updA
      by_cases hjk : k = j
      · subst hjk
        rw [if_pos rfl, curB_add]
        by_cases hc : i = c
        · subst hc
          rw [if_pos h5.symm, if_pos (by omega)]
        · rw [if_neg (by omega), if_neg (by omega)]; exact h.atv k hk c c1 c2
      · rw [if_neg hjk, if_neg (fun he => hjk (volBase_inj (g := g) ⟨h3, h4⟩ ⟨c1, c2⟩ (he.trans h5)).1.symm)]
        exact h.atv j hj c c1 c2
end
end Go.Proofs.YtjdnflhejfcgdaaDoor

/-
  What a medium has behind a flush, a renewal, a format, an opening.
-/
namespace Go.Proofs.YtjdnflhejfcgdaaDoor
open Go Go.SL Go.Proofs

/-- nothing waits on the first n volumes -/
def cleanV (n : Nat) (vl : List (Nat × DevS)) : Prop := ∀ k (h : k < vl.length), k < n → vl[k].2.pend = []
theorem cleanV_all {vl : List (Nat × DevS)} (h : cleanV vl.length vl) : ∀ x ∈ vl, x.2.pend = [] := fun x hx => by
  obtain ⟨k, hk, rfl⟩ := List.mem_iff_getElem.1 hx
  exact h k hk hk

section
variable {g : Geo} {gens : List Int} {s : DevS} {vl : List (Nat × DevS)} {val : Int → List Int}
theorem MV.setD (h : MV g gens s vl val) {s' : DevS} (ok : s'.OK) (w : Well s') (n : s'.blocks.length = s.blocks.length) (hc : ∀ j : Int, 0 ≤ j → j < s.blocks.length → curB s' j = curB s j) : MV g gens s' vl val := by
  have hg := mayG_is h.may
  have hn := h.n
  refine ⟨h.may, ok, w, by rw [n]; exact h.n, h.okv, h.wv, h.nv, h.lv, ?_, h.hv, h.gv, ?_, h.atv⟩
  · rw [hc 0 (by omega) (by omega)]; exact h.hs
  · intro a a1 a2
    rw [hc _ (by omega) (by omega)]; exact h.atd a a1 a2
theorem MV.setVol (h : MV g gens s vl val) {k : Nat} (hk : k < vl.length) {s' : DevS} (ok : s'.OK) (w : Well s') (n : s'.blocks.length = vl[k].2.blocks.length) {gens' : List Int} {val' : Int → List Int}
    (hg' : ∀ j, j ≠ k → gens'.getD j 0 = gens.getD j 0) (h0 : curB s' 0 = labelF k (gens'.getD k 0)) (hl : labMay k (gens'.getD k 0) = true)
    (hv1 : ∀ a, a ≤ volBase g k ∨ volBase g k + g.segs * 16 < a → val' a = val a) (hv2 : ∀ i, 1 ≤ i → i ≤ g.segs * 16 → curB s' i = val' (volBase g k + i)) : MV g gens' s (vl.set k (vl[k].1, s')) val' := by
  have hg := mayG_is h.may
  have hmem := List.getElem_mem hk
  have hall : ∀ x ∈ vl.set k (vl[k].1, s'), x ∈ vl ∨ x = (vl[k].1, s') := fun x hx => List.mem_or_eq_of_mem_set hx
  refine ⟨h.may, h.ok, h.w, h.n, ?_, ?_, ?_, by rw [List.length_set]; exact h.lv, h.hs, ?_, ?_, ?_, ?_⟩
  · intro x hx
    rcases hall x hx with hx | rfl
    · exact h.okv x hx
    · exact ok
  · intro x hx
    rcases hall x hx with hx | rfl
    · exact h.wv x hx
    · exact w
  · intro x hx
    rcases hall x hx with hx | rfl
    · exact h.nv x hx
    · have := h.nv _ hmem; dsimp only; omega
  · intro j hj
    rw [List.length_set] at hj
    rw [List.getElem_set]
    by_cases hjk : k = j
    · subst hjk; rw [if_pos rfl]; exact h0
    · rw [if_neg hjk, hg' j (fun e => hjk e.symm)]; exact h.hv j hj
  · intro j hj
    rw [List.length_set] at hj
    by_cases hjk : k = j
    · subst hjk; exact hl
    · rw [hg' j (fun e => hjk e.symm)]; exact h.gv j hj
  · intro a a1 a2
    have := volBase_ge h.may k
    rw [hv1 a (by omega)]; exact h.atd a a1 a2
  · intro j hj i i1 i2
    rw [List.length_set] at hj
    rw [List.getElem_set]
    by_cases hjk : k = j
    · subst hjk; rw [if_pos rfl]; exact hv2 i i1 i2
    · rw [if_neg hjk, h.atv j hj i i1 i2]
      refine (hv1 _ ?_).symm
      have key : ∀ (a b : Nat), a < b → (a : Int) * (g.segs * 16) + g.segs * 16 ≤ (b : Int) * (g.segs * 16) := fun a b hab => by
        have : ((a : Int) + 1) * (g.segs * 16) ≤ (b : Int) * (g.segs * 16) := Int.mul_le_mul_of_nonneg_right (by omega) (by omega)
        rw [Int.add_mul] at this; omega
      unfold volBase
      rcases Nat.lt_or_ge j k with h1 | h1
      · have := key j k h1; omega
      · have := key k j (by omega); omega
theorem flS_ok {s : DevS} (h : s.OK) (w : Well s) : (flS s).OK := by rw [flS, if_pos w.spE]; exact flushS_OK h
theorem MV.flushD (h : MV g gens s vl val) : flME s vl (-1) = 0 ∧ MV g gens (flMD s (-1)) (flMV vl (-1)) val ∧ (flMD s (-1)).pend = [] ∧ flMV vl (-1) = vl := by
  have e1 : flMD s (-1) = flS s := by unfold flMD; rw [if_pos rfl]
  have e2 : flMV vl (-1) = vl := by unfold flMV; rw [if_neg (by omega)]
  have hok := flS_ok h.ok h.w
  rw [e1, e2]
  rw [h.w.flS] at hok ⊢
  refine ⟨by unfold flME; rw [if_pos rfl]; exact h.w.spE, h.setD hok (h.w.setB _ _) (by simp [execB_len]) fun j h1 h2 => curB_flush h.ok (by simp [thereB]; omega), rfl, rfl⟩
theorem MV.flushV (h : MV g gens s vl val) {k : Nat} (hk : k < vl.length) : flME s vl k = 0 ∧ MV g gens (flMD s k) (flMV vl k) val ∧ flMD s k = s ∧ (flMV vl k).length = vl.length ∧ (cleanV k vl → cleanV (k + 1) (flMV vl k)) := by
  have hmem := List.getElem_mem hk
  have hg := mayG_is h.may
  have e1 : flMD s (k : Int) = s := by unfold flMD; rw [if_neg (by omega)]
  have e2 : flMV vl (k : Int) = vl.set k (vl[k].1, flS vl[k].2) := by unfold flMV; rw [if_pos (by omega), Int.toNat_natCast, setV_set hk]
  have hok := flS_ok (h.okv _ hmem) (h.wv _ hmem)
  have hn := h.nv _ hmem
  have hfl := (h.wv _ hmem).flS
  rw [e1, e2]
  refine ⟨?_, ?_, rfl, by rw [List.length_set], ?_⟩
  · unfold flME
    rw [if_neg (by omega), if_pos (by omega)]
    simp only [Int.toNat_natCast, List.getD, List.getElem?_eq_getElem hk, Option.getD_some]
    exact (h.wv _ hmem).spE
  · rw [hfl] at hok ⊢
    have hcur : ∀ j : Int, 0 ≤ j → j < vl[k].2.blocks.length → curB { vl[k].2 with blocks := execB (fun _ => 128) vl[k].2.pend vl[k].2.blocks, pend := [] } j = curB vl[k].2 j := fun j h1 h2 => curB_flush (h.okv _ hmem) (by simp [thereB]; omega)
    refine h.setVol hk hok ((h.wv _ hmem).setB _ _) (by simp [execB_len]) (fun _ _ => rfl) ?_ (h.gv k hk) (fun _ _ => rfl) ?_
    · rw [hcur 0 (by omega) (by omega)]; exact h.hv k hk
    · intro i i1 i2
      rw [hcur i (by omega) (by omega)]; exact h.atv k hk i i1 i2
  · intro hcl j hj hjk
    rw [List.length_set] at hj
    rw [List.getElem_set]
    by_cases hjk2 : k = j
    · rw [if_pos hjk2, hfl]
    · rw [if_neg hjk2]; exact hcl j hj (by omega)
/-- the volume k has nothing any more -/
def clearV (g : Geo) (k : Nat) (val : Int → List Int) : Int → List Int := fun c => if volBase g k < c ∧ c ≤ volBase g k + g.segs * 16 then zeros128 else val c
def reS (s : DevS) (b : List Int) : DevS := { s with blocks := (List.replicate s.blocks.length zeros128).set 0 b, pend := [] }
theorem reS_ok {s : DevS} (h : s.OK) {b : List Int} (hb : b.length = 128) : (reS s b).OK := by
  refine ⟨fun l hl => ?_, fun x hx => (by simp [reS] at hx), by simpa [reS] using h.bn, h.bu⟩
  rcases List.mem_or_eq_of_mem_set hl with hl | rfl
  · rw [(List.mem_replicate.1 hl).2]; simp [zeros128]
  · exact hb
theorem curB_reS (s : DevS) (b : List Int) (h : 0 < s.blocks.length) (j : Int) (h0 : 0 ≤ j) (h1 : j < s.blocks.length) : curB (reS s b) j = if j = 0 then b else zeros128 := by
  rw [curB_clean rfl]
  simp only [reS, List.getD, List.getElem?_set]
  by_cases hj : j = 0
  · subst hj; simp [h]
  · rw [if_neg hj, if_neg (by omega)]
    simp [show j.toNat < s.blocks.length by omega]
theorem MV.renew (h : MV g gens s vl val) {k : Nat} (hk : k < vl.length) (hgl : k < gens.length) (hmax : gens.getD k 0 < 4294967295) : spE vl[k].2 = 0 ∧ wfE (eraseS vl[k].2) 0 (labelF k (gens.getD k 0 + 1)) = 0 ∧
    wfS (eraseS vl[k].2) 0 (labelF k (gens.getD k 0 + 1)) = reS vl[k].2 (labelF k (gens.getD k 0 + 1)) ∧
    MV g (gens.set k (gens.getD k 0 + 1)) s (vl.set k (vl[k].1, reS vl[k].2 (labelF k (gens.getD k 0 + 1)))) (clearV g k val) := by
  have hmem := List.getElem_mem hk
  have hg := mayG_is h.may
  have hw := h.wv _ hmem
  have hn := h.nv _ hmem
  have hlm := h.gv k hk
  have hlm' : labMay k (gens.getD k 0 + 1) = true := by
    simp only [labMay, decide_eq_true_eq] at hlm ⊢; omega
  have hb := labelF_len hlm'
  have hE : Well (eraseS vl[k].2) := by rw [hw.eraseS]; exact hw.setB _ _
  have hwf := wf_well hE (by rw [hw.eraseS]) (by rw [hw.eraseS]; simp; omega) hb (by rw [hw.eraseS]; simp [List.getD, show 0 < vl[k].2.blocks.length by omega, zeros128])
  have he : wfS (eraseS vl[k].2) 0 (labelF k (gens.getD k 0 + 1)) = reS vl[k].2 (labelF k (gens.getD k 0 + 1)) := by
    rw [hwf.2, hw.eraseS]; rfl
  refine ⟨hw.spE, hwf.1, he, ?_⟩
  have hgk : (gens.set k (gens.getD k 0 + 1)).getD k 0 = gens.getD k 0 + 1 := by simp [List.getD, hgl]
  refine h.setVol hk (reS_ok (h.okv _ hmem) hb) (hw.setB _ _) (by simp [reS]) (fun j hj => ?_) ?_ (by rw [hgk]; exact hlm') (fun a ha => ?_) (fun i i1 i2 => ?_)
  · simp only [List.getD, List.getElem?_set]; rw [if_neg (fun e => hj e.symm)]
  · rw [curB_reS _ _ (by omega) 0 (by omega) (by omega), if_pos rfl, hgk]
  · unfold clearV; rw [if_neg (by omega)]
  · rw [curB_reS _ _ (by omega) i (by omega) (by omega), if_neg (by omega)]
    unfold clearV; rw [if_pos (by omega)]
theorem newDev_curB {n : Nat} {j : Int} (h0 : 0 ≤ j) (h1 : j < n) : curB (newDev n) j = zeros128 := by
  rw [curB_clean rfl]; simp [newDev, List.getD, show j.toNat < n by omega]
/-- a new medium -/
theorem MV.format {g : Geo} (hm : mayG g = true) {N M : Nat} (hN : (N : Int) = 16 + 16 * g.disk) (hM : (M : Int) = 1 + 16 * g.segs) {vl : List (Nat × DevS)} (hvl : vl.map Prod.snd = List.replicate g.vols.toNat (newDev M)) :
    fitsF g (newDev N) vl = true ∧ ewfE (newDev N) (superF g) = 0 ∧ (∀ i (h : i < vl.length), ewfE vl[i].2 (labelF i 0) = 0) ∧
    MV g (List.replicate vl.length 0 ++ List.replicate (8 - vl.length) (-1)) (ewfS (newDev N) (superF g)) (fmV vl vl.length) (fun _ => zeros128) ∧ (ewfS (newDev N) (superF g)).pend = [] ∧ cleanV vl.length (fmV vl vl.length) := by
  have hg := mayG_is hm
  have hlen : vl.length = g.vols.toNat := by have := congrArg List.length hvl; simpa using this
  have hall : ∀ i (h : i < vl.length), vl[i].2 = newDev M := fun i h => by
    have h1 : vl[i].2 ∈ vl.map Prod.snd := List.mem_map_of_mem (List.getElem_mem h)
    rw [hvl] at h1
    exact List.eq_of_mem_replicate h1
  have hd := ewf_new (newDev_well N) (by simp [newDev]; omega) (superF_len hm)
  have hlab : ∀ i, i < vl.length → labMay i 0 = true := fun i hi => by simp only [labMay, decide_eq_true_eq]; omega
  have hv : ∀ i, i < vl.length → ewfE (newDev M) (labelF i 0) = 0 ∧ ewfS (newDev M) (labelF i 0) = reS (newDev M) (labelF i 0) := fun i hi => ewf_new (newDev_well M) (by simp [newDev]; omega) (labelF_len (hlab i hi))
  have hd2 : ewfS (newDev N) (superF g) = reS (newDev N) (superF g) := hd.2
  have hfl : (fmV vl vl.length).length = vl.length := fmV_len vl _
  have hfm : ∀ i (h : i < (fmV vl vl.length).length), ((fmV vl vl.length)[i]).2 = reS (newDev M) (labelF i 0) := fun i h => by
    have h' : i < vl.length := by omega
    simp only [fmV, List.getElem_mapIdx]
    rw [if_pos h']
    show ewfS vl[i].2 (labelF i 0) = _
    rw [hall i h', (hv i h').2]
  have hNb : (newDev N).blocks.length = N := by simp [newDev]
  have hMb : (newDev M).blocks.length = M := by simp [newDev]
  have hok : (newDev M).OK := newDev_OK (by omega)
  have hgd : ∀ k, k < vl.length → (List.replicate vl.length (0 : Int) ++ List.replicate (8 - vl.length) (-1)).getD k 0 = 0 := fun k hk => by
    simp only [List.getD, List.getElem?_append_left (show k < (List.replicate vl.length (0 : Int)).length by simpa using hk)]
    simp [hk]
  refine ⟨?_, hd.1, fun i h => by rw [hall i h]; exact (hv i h).1, ?_, by rw [hd2]; rfl, fun k h1 _ => by rw [hfm k h1]; rfl⟩
  · simp only [fitsF, Bool.and_eq_true, decide_eq_true_eq, List.all_eq_true]
    refine ⟨⟨by rw [hNb]; omega, by omega⟩, fun x hx => ?_⟩
    obtain ⟨k, hk, rfl⟩ := List.mem_iff_getElem.1 hx
    rw [hall k hk, hMb]; omega
  · have hmem : ∀ x ∈ fmV vl vl.length, ∃ i, i < vl.length ∧ x.2 = reS (newDev M) (labelF i 0) := fun x hx => by
      obtain ⟨k, hk, rfl⟩ := List.mem_iff_getElem.1 hx
      exact ⟨k, by omega, hfm k hk⟩
    rw [hd2]
    refine ⟨hm, reS_ok (newDev_OK (by omega)) (superF_len hm), (newDev_well N).setB _ _, by simp [reS, hNb]; omega, ?_, ?_, ?_, by rw [hfl]; omega, ?_, ?_, ?_, ?_, ?_⟩
    · intro x hx; obtain ⟨i, hi, e⟩ := hmem x hx; rw [e]; exact reS_ok hok (labelF_len (hlab i hi))
    · intro x hx; obtain ⟨i, hi, e⟩ := hmem x hx; rw [e]; exact (newDev_well M).setB _ _
    · intro x hx; obtain ⟨i, hi, e⟩ := hmem x hx; rw [e]; simp [reS, hMb]; omega
    · rw [curB_reS _ _ (by omega) 0 (by omega) (by omega), if_pos rfl]
    · intro k hk
      rw [hfm k hk, curB_reS _ _ (by omega) 0 (by omega) (by omega), if_pos rfl, hgd k (by omega)]
    · intro k hk; rw [hgd k (by omega)]; exact hlab k (by omega)
    · intro a a1 a2
      rw [curB_reS _ _ (by omega) _ (by omega) (by omega), if_neg (by omega)]
    · intro k hk i i1 i2
      rw [hfm k hk, curB_reS _ _ (by omega) _ (by omega) (by omega), if_neg (by omega)]
/-- what is opened -/
theorem MV.open (h : MV g gens s vl val) : openE s vl = 0 ∧ (readSuperF (rdB s 0)).1 = g ∧ (∀ k, k < vl.length → (openG vl vl.length).getD k 0 = gens.getD k 0) ∧ MV g (openG vl vl.length) s vl val := by
  have hg := mayG_is h.may
  have hn := h.n
  have hl := h.lv
  have ht : thereB s 0 = true := by simp [thereB]; omega
  have hr0 := h.w.rdE ht
  have hrb : rdB s 0 = superF g := (h.w.rdB ht).trans h.hs
  have hrs := readSuper_super h.may
  have hge : ∀ k (hk : k < vl.length), genLab k vl[k].2 = gens.getD k 0 := fun k hk => by
    have hmem := List.getElem_mem hk
    have hnv := h.nv _ hmem
    have ht : thereB vl[k].2 0 = true := by simp [thereB]; omega
    unfold genLab
    rw [if_pos ((h.wv _ hmem).rdE ht), (h.wv _ hmem).rdB ht, h.hv k hk, readLabel_label (h.gv k hk)]
    simp
  have hG : ∀ k, k < vl.length → (openG vl vl.length).getD k 0 = gens.getD k 0 := fun k hk => by
    unfold openG
    rw [List.take_length]
    simp only [List.getD]
    rw [List.getElem?_append_left (by simpa using hk)]
    simp only [List.getElem?_mapIdx, List.getElem?_eq_getElem hk, Option.map_some, Option.getD_some]
    exact hge k hk
  refine ⟨?_, by rw [hrb, hrs], hG, ?_⟩
  · unfold openE
    rw [if_neg (by omega), if_pos hr0, hrb, hrs]
    dsimp only
    rw [if_pos rfl, if_pos]
    simp only [fitsF, Bool.and_eq_true, decide_eq_true_eq, List.all_eq_true]
    exact ⟨⟨hn, hl⟩, fun x hx => h.nv x hx⟩
  · exact { h with
      hv := fun k hk => by rw [hG k hk]; exact h.hv k hk
      gv := fun k hk => by rw [hG k hk]; exact h.gv k hk }
/-- at most n wait on each device -/
def PB (n : Nat) (s : DevS) (vl : List (Nat × DevS)) : Prop := s.pend.length ≤ n ∧ ∀ x ∈ vl, x.2.pend.length ≤ n
theorem wrS_pend (s : DevS) (i : Int) (b : List Int) : (wrS s i b).pend.length ≤ s.pend.length + 1 := by
  unfold wrS
  split
  · split
    · simp [addS, spendS]
    · simp [spendS]
  · omega
theorem PB.write {n : Nat} (h : PB n s vl) (g : Geo) (a : Int) (b : List Int) : PB (n + 1) (wrMD g s a b) (wrMV g vl a b) := by
  constructor
  · unfold wrMD
    have := h.1
    split
    · have := wrS_pend s (idxAt (whereOf g a).1) b; omega
    · omega
  · intro x hx
    unfold wrMV at hx
    split at hx
    · unfold setV at hx
      obtain ⟨k, hk, rfl⟩ := List.mem_iff_getElem.1 hx
      rw [List.getElem_modify]
      rw [List.length_modify] at hk
      have := h.2 _ (List.getElem_mem hk)
      split
      · have := wrS_pend vl[k].2 (idxAt (whereOf g a).1) b; dsimp only; omega
      · omega
    · have := h.2 x hx; omega
end
end Go.Proofs.YtjdnflhejfcgdaaDoor

/-
  The chapter's example of media, walked.
-/
namespace Go.Proofs.YtjdnflhejfcgdaaDoor
open Go Go.SL Go.Proofs

instance allB_fact {c : Int} : Fact' (((allB c).map u8c).length = 128) := ⟨by rw [List.length_map, allB_len]⟩
theorem two_of {l : List (Nat × DevS)} {s t : DevS} (h : l.map Prod.snd = [s, t]) : ∃ a b, l = [(a, s), (b, t)] := by
  match l, h with
  | [(a, _), (b, _)], h => simp at h; obtain ⟨rfl, rfl⟩ := h; exact ⟨a, b, rfl⟩
theorem format_some {S0 S1 SD : DevS} (e0 : ewfE (newDev 49) (labelF 0 0) = 0 ∧ ewfS (newDev 49) (labelF 0 0) = S0) (e1 : ewfE (newDev 49) (labelF 1 0) = 0 ∧ ewfS (newDev 49) (labelF 1 0) = S1) (eD : ewfE (newDev 176) (superF someG) = 0 ∧ ewfS (newDev 176) (superF someG) = SD)
    (d a0 a1 : Nat) {pv : Option Addr} {nv cv : Nat} {F : List HP} [HalvesC F] (hv : SlC F pv 1 nv cv ([a0, a1].map ptrc)) :
    Tr Tryd.prog 21 [.agg someG.cells, .pointer (some ⟨d, 0, none⟩), .slice pv nv cv].toArray (devP d (newDev 176) :: devsP [(a0, newDev 49), (a1, newDev 49)] :: F)
      (fun v L' => ∃ m, v = .tuple #[.pointer (some ⟨m, 0, none⟩), .int .i64 0] ∧ L' = medP m d [a0, a1] someG [0, 0, -1, -1, -1, -1, -1, -1] :: devP d SD :: devsP [(a0, S0), (a1, S1)] :: F) := by
  have h := medium_Format someG d (newDev 176) [(a0, newDev 49), (a1, newDev 49)] (by decide) (by unfold fitsF newDev; simp only [List.length_replicate, List.all_cons, List.all_nil, List.length_cons, List.length_nil]; decide) eD.1 (fun i hi => by
    rcases (by simp at hi; omega : i = 0 ∨ i = 1) with rfl | rfl
    · exact e0.1
    · exact e1.1) hv
  rw [eD.2] at h
  have e : fmV [(a0, newDev 49), (a1, newDev 49)] 2 = [(a0, S0), (a1, S1)] := by
    simp only [fmV, List.mapIdx_cons, List.mapIdx_nil]
    rw [if_pos (by omega), if_pos (by omega)]
    show [(a0, ewfS (newDev 49) (labelF 0 0)), (a1, ewfS (newDev 49) (labelF 1 0))] = _
    rw [e0.2, e1.2]
  refine h.weaken fun v L' ⟨m, h1, h2⟩ => ⟨_, Ent.refl _, m, h1, ?_⟩
  rw [h2, show ([(a0, newDev 49), (a1, newDev 49)] : List (Nat × DevS)).length = 2 from rfl, e]; rfl

end Go.Proofs.YtjdnflhejfcgdaaDoor

/-
  Media by what they have: the methods; what was written where.
-/
namespace Go.Proofs.YtjdnflhejfcgdaaDoor
open Go Go.SL Go.Proofs

section
variable {g : Geo} {gens : List Int} {s : DevS} {vl : List (Nat × DevS)} {val : Int → List Int} {F : List HP} {vs : List Nat}
theorem mv_Write (hM : MV g gens s vl val) (hvs : vl.map Prod.fst = vs) (m d : Nat) {a : Int} (ha : 1 ≤ a ∧ a ≤ blocksG g) {b : List Int} (hb : b.length = 128) {q : Nat} (hP : PB q s vl) (hq : q ≤ 1000000000) {p : Option Addr} {n c : Nat} (hl : SlC F p 1 n c (b.map u8c)) :
    Tr Tryd.prog 72 [.pointer (some ⟨m, 0, none⟩), .int .i64 a, .slice p n c].toArray (medP m d vs g gens :: devP d s :: devsP vl :: F)
      (fun v L' => v = .int .i64 0 ∧ L' = medP m d vs g gens :: devP d (wrMD g s a b) :: devsP (wrMV g vl a b) :: F) := by
  subst hvs
  have h := medium_Write m d g gens s vl a b (by have := hP.1; omega) (fun x hx => by have := hP.2 x hx; omega) hl
  rw [hb, hM.wrME ha] at h
  exact h
theorem MV.writeD (hM : MV g gens s vl val) {a : Int} (ha : 1 ≤ a ∧ a ≤ g.disk * 16) {b : List Int} (hb : b.length = 128) : wrMV g vl a b = vl ∧ { wrMD g s a b with pend := [] } = { s with pend := [] } := by
  have hbl := blocksG_is hM.may
  have hg := mayG_is hM.may
  have : 0 ≤ g.vols * (g.segs * 16) := Int.mul_nonneg (by omega) (by omega)
  obtain ⟨h0, ⟨h1, h2, h3⟩ | ⟨k, h1, h2, h3, h4, h5⟩⟩ := where_in hM.may (a := a) (by omega)
  · have ht : thereB s (a + 15) = true := by have := hM.n; simp [thereB]; omega
    refine ⟨by unfold wrMV; rw [if_neg (by omega)], ?_⟩
    unfold wrMD
    rw [if_pos ⟨h0, by omega⟩, h2, hM.w.wrS ht hb]
  · have := volBase_ge hM.may k; omega
theorem mv_Read (hM : MV g gens s vl val) (hvs : vl.map Prod.fst = vs) (m d : Nat) {a : Int} (ha : 1 ≤ a ∧ a ≤ blocksG g) :
    Tr Tryd.prog 34 [.pointer (some ⟨m, 0, none⟩), .int .i64 a].toArray (medP m d vs g gens :: devP d s :: devsP vl :: F)
      (fun v L' => ∃ sl, v = .tuple #[sl, .int .i64 0] ∧ L' = vec 147 1 ((val a).map u8c) sl :: medP m d vs g gens :: devP d s :: devsP vl :: F) := by
  subst hvs
  have h := medium_Read m d g gens s vl a (F := F)
  obtain ⟨h1, h2, _⟩ := hM.read ha
  rw [h1, h2] at h
  exact h
theorem mv_Flush (hvs : vl.map Prod.fst = vs) (m d : Nat) (v : Int) (he : flME s vl v = 0) :
    Tr Tryd.prog 32 [.pointer (some ⟨m, 0, none⟩), .int .i64 v].toArray (medP m d vs g gens :: devP d s :: devsP vl :: F)
      (fun r L' => r = .int .i64 0 ∧ L' = medP m d vs g gens :: devP d (flMD s v) :: devsP (flMV vl v) :: F) := by
  subst hvs
  have h := medium_Flush m d g gens s vl v (F := F)
  rw [he] at h
  exact h
theorem mv_Format (hm : mayG g = true) {N M : Nat} (hN : (N : Int) = 16 + 16 * g.disk) (hMl : (M : Int) = 1 + 16 * g.segs) (hvl : vl.map Prod.snd = List.replicate g.vols.toNat (newDev M)) (d : Nat) {pv : Option Addr} {nv cv : Nat} [HalvesC F] (hv : SlC F pv 1 nv cv ((vl.map Prod.fst).map ptrc)) :
    Tr Tryd.prog 21 [.agg g.cells, .pointer (some ⟨d, 0, none⟩), .slice pv nv cv].toArray (devP d (newDev N) :: devsP vl :: F)
      (fun v L' => ∃ m, v = .tuple #[.pointer (some ⟨m, 0, none⟩), .int .i64 0] ∧ L' = medP m d (vl.map Prod.fst) g (List.replicate vl.length 0 ++ List.replicate (8 - vl.length) (-1)) :: devP d (ewfS (newDev N) (superF g)) :: devsP (fmV vl vl.length) :: F) := by
  obtain ⟨h1, h2, h3, _⟩ := MV.format hm hN hMl hvl
  exact medium_Format g d (newDev N) vl hm h1 h2 h3 hv
theorem devs_Crash (vl : List (Nat × DevS)) (i : Nat) (h : i < vl.length) (far : List Int) {p : Option Addr} {n c : Nat} (hl : SlC F p 1 n c (far.map fun z => #[Value.int .i64 z])) :
    Tr Tryd.prog 18 [.pointer (some ⟨vl[i].1, 0, none⟩), .slice p n c].toArray (devsP vl :: F) (fun v L' => v = .tuple #[] ∧ L' = devsP (vl.set i (vl[i].1, crashS vl[i].2 far)) :: F) := by
  have hl2 : SlC (devsP (vl.take i) :: devsP (vl.drop (i + 1)) :: F) p 1 n c (far.map fun z => #[Value.int .i64 z]) := SlC.tail (h := SlC.tail (h := hl))
  exact (Tr.ent (devs_cut vl i h) (dev_Crash vl[i].1 vl[i].2 far hl2)).weaken fun v L' ⟨h1, h2⟩ => ⟨_, by rw [h2]; exact devs_put vl i h _, h1, rfl⟩
theorem devs_On (vl : List (Nat × DevS)) (i : Nat) (h : i < vl.length) : Tr Tryd.prog 19 [.pointer (some ⟨vl[i].1, 0, none⟩)].toArray (devsP vl :: F) (fun v L' => v = .tuple #[] ∧ L' = devsP (vl.set i (vl[i].1, onS vl[i].2)) :: F) :=
  (Tr.ent (devs_cut vl i h) (dev_On vl[i].1 vl[i].2)).weaken fun v L' ⟨h1, h2⟩ => ⟨_, by rw [h2]; exact devs_put vl i h _, h1, rfl⟩
/-- a volume on which nothing waits, behind a crash -/
theorem devs_OnC (vl : List (Nat × DevS)) (i : Nat) (h : i < vl.length) (hw : Well vl[i].2) (hp : vl[i].2.pend = []) (far : List Int) : Tr Tryd.prog 19 [.pointer (some ⟨vl[i].1, 0, none⟩)].toArray (devsP (vl.set i (vl[i].1, crashS vl[i].2 far)) :: F) (fun v L' => v = .tuple #[] ∧ L' = devsP vl :: F) := by
  have hi : i < (vl.set i (vl[i].1, crashS vl[i].2 far)).length := by simpa using h
  have k := devs_On (F := F) (vl.set i (vl[i].1, crashS vl[i].2 far)) i hi
  simp only [List.getElem_set_self, List.set_set, crash_clean hw hp far, List.set_getElem_self] at k
  rw [show (vl[i].1, vl[i].2) = vl[i] from rfl, List.set_getElem_self] at k
  exact k
end

/-- what the last write of a list to z wrote: 1, 2, 3, .. -/
def valAt (l : List Int) (z : Int) : Int := l.zipIdx.foldl (fun acc x => if x.1 = z then 1 + (x.2 : Int) else acc) 0
theorem valAt_snoc (l : List Int) (x z : Int) : valAt (l ++ [x]) z = if x = z then 1 + (l.length : Int) else valAt l z := by
  unfold valAt
  rw [List.zipIdx_append, List.foldl_append]
  simp
theorem valAt_bd (l : List Int) (z : Int) : 0 ≤ valAt l z ∧ valAt l z ≤ l.length := by
  suffices H : ∀ q : List Int, 0 ≤ valAt q.reverse z ∧ valAt q.reverse z ≤ q.reverse.length by
    have := H l.reverse; rwa [List.reverse_reverse] at this
  intro q
  induction q with
  | nil => simp [valAt]
  | cons x r ih =>
    rw [List.reverse_cons, valAt_snoc, List.length_append]
    simp only [List.length_singleton]
    split <;> omega
def wroteF (l : List Int) : Value → Option Value := fun k => match k with | .int .i64 z => if valAt l z = 0 then none else some (.int .u8 (valAt l z)) | _ => none
theorem wroteF_nil : wroteF [] = fun _ => none := by
  funext k; unfold wroteF; split <;> simp [valAt]
theorem wroteF_snoc (l : List Int) (x : Int) : wroteF (l ++ [x]) (.int .i64 x) = some (.int .u8 (1 + (l.length : Int))) := by
  unfold wroteF
  dsimp only
  rw [valAt_snoc, if_pos rfl, if_neg (by omega)]
theorem wroteF_other (l : List Int) (x : Int) {u : Value} (h : u ≠ .int .i64 x) : wroteF (l ++ [x]) u = wroteF l u := by
  unfold wroteF
  split
  · rename_i z
    have hz : ¬ x = z := fun e => h (by rw [e])
    rw [valAt_snoc, if_neg hz]
  · rfl
theorem upd_valAt (l : List Int) (x : Int) : updA (fun a => allB (valAt l a)) x (allB (1 + (l.length : Int))) = fun a => allB (valAt (l ++ [x]) a) := by
  funext a
  unfold updA
  rw [valAt_snoc]
  by_cases h : a = x
  · rw [if_pos h, if_pos h.symm]
  · rw [if_neg h, if_neg (fun e => h e.symm)]

section
variable {P : Program} {w0 : World} {nt : Cx} {L : List HP} {env : Env} {ty : TypeId}
theorem R_wrote {t kt et : TypeId} {x i : Operand} {r : Nat} {z : Int} {l : List Int} [hm : Und P t (.map kt et)] [hd : Und P kt (.int .i64)] [hz : ZeroC P et (.int .u8 0)] (hx : evO env x = some (.map (some r))) (hi : evO env i = some (.int .i64 z))
    (hc : MpC L r (.int .i64) (wroteF l)) : OpR P w0 nt L env (.lookup t x i false) ty (.int .u8 (valAt l z)) := by
  by_cases h0 : valAt l z = 0
  · rw [h0]
    exact R_lookup1_no hx hi hc rfl (by rfl) (by simp [wroteF, h0])
  · exact R_lookup1_yes hx hi hc rfl (by rfl) (by simp [wroteF, h0])
end
end Go.Proofs.YtjdnflhejfcgdaaDoor

/-
  OWN BASE, PART 20: loops over functions ('for .. := range f'): the record, yield's contract ('YTr'), the rounds, the statement, the way out of a function that has gone through one.
-/
namespace Go.SL
open Go

/-- what a loop's record bears, whatever its state -/
structure LR where
  fn : FuncId
  tmps : Array Value
  ps : Array Tmp
  assign : Code
  body : Code
  D : Nat
def LR.rc (x : LR) (st : LoopState) (j : Option Code) : Loop := { state := st, pending := j, fn := x.fn, tmps := x.tmps, params := x.ps, assign := x.assign, body := x.body, defers := x.D }
def loopP (l : Nat) (x : LR) (st : LoopState) (j : Option Code) : HP := pt l (.loop (x.rc st j))
/-- the block for what rounds defer: nothing -/
def markP (D : Nat) : HP := pt D (.deferred (some []))
def markD (D : Nat) : Deferred := { target := .collected D, args := #[] }
attribute [irreducible] loopP markP

/-- What is known of temporaries alone. -/
structure TRel (n : Nat) (env : Env) (ts : Array Value) : Prop where
  size : ts.size = n
  get : ∀ t v, env.get t = some v → ts[t]? = some v
theorem TRel.put {n : Nat} {env : Env} {ts : Array Value} (h : TRel n env ts) {t : Nat} (ht : t < n) (v : Value) : TRel n ((t, v) :: env) (ts.setIfInBounds t v) := by
  refine ⟨by simp [h.size], fun u x hu => ?_⟩
  simp only [Env.get] at hu
  by_cases e : t = u
  · subst e; simp at hu; simp [h.size, ht, hu]
  · have : Nat.beq t u = false := nbeq_ne e
    simp [this] at hu
    simp [e, h.get u x hu]
def putsE : Env → List (Tmp × Value) → Env
  | env, [] => env
  | env, (t, v) :: r => putsE ((t, v) :: env) r
def pairs : List Tmp → List Value → List (Tmp × Value)
  | t :: r, v :: s => (t, v) :: pairs r s
  | _, _ => []
theorem pairs_zip : ∀ (l : List Tmp) (s : List Value), pairs l s = l.zip s
  | [], _ => by simp [pairs]
  | _ :: _, [] => by simp [pairs]
  | t :: r, v :: s => by simp [pairs, pairs_zip r s]
def allLt (n : Nat) : List Tmp → Bool
  | [] => true
  | t :: r => Nat.blt t n && allLt n r
theorem TRel.puts {n : Nat} : ∀ (l : List Tmp) (s : List Value) (env : Env) (ts : Array Value), TRel n env ts → allLt n l = true → TRel n (putsE env (pairs l s)) ((l.zip s).foldl (fun tmps x => tmps.setIfInBounds x.1 x.2) ts)
  | [], _, _, _, h, _ => by simpa [pairs, putsE] using h
  | _ :: _, [], _, _, h, _ => by simpa [pairs, putsE] using h
  | t :: r, v :: s, env, ts, h, ht => by
    simp only [allLt, Bool.and_eq_true, Nat.blt_eq] at ht
    simp only [pairs, putsE, List.zip_cons_cons, List.foldl_cons]
    exact TRel.puts r s _ _ (h.put ht.1 v) ht.2

section
variable {P : Program} {w0 : World} {nt : Cx} {L F : List HP} {env : Env} {ty : TypeId} {Q : Exit → Act → World → Prop}

/-- A contract of yield. -/
structure YTr (P : Program) (l : Nat) (args : Array Value) (L : List HP) (R : Value → List HP → Prop) : Prop where
  h : ∀ w0 w, Sat w0 w L → ∃ fn tmps assign body, (Instr.yield l args).run P w = .ok (.round l fn tmps assign body) w ∧
    RoundIn Fence.wide 0 P l fn tmps assign body w fun e w' => ∃ v L', e = .returned v ∧ Sat w0 w' L' ∧ R v L'
theorem YTr.ent {l : Nat} {args : Array Value} {L' : List HP} {R : Value → List HP → Prop} (e : Ent L L') (h : YTr P l args L' R) : YTr P l args L R := .mk fun w0 w hs => h.h w0 w (hs.ent e)
theorem YTr.weaken {l : Nat} {args : Array Value} {R R' : Value → List HP → Prop} (h : YTr P l args L R) (k : ∀ v L', R v L' → ∃ L'', Ent L' L'' ∧ R' v L'') : YTr P l args L R' := .mk fun w0 w hs => by
  obtain ⟨fn, tmps, assign, body, h1, h2⟩ := h.h w0 w hs
  exact ⟨fn, tmps, assign, body, h1, h2.mono fun e w' ⟨v, L', he, h3, h4⟩ => let ⟨L'', e', h5⟩ := k v L' h4; ⟨v, L'', he, h3.ent e', h5⟩⟩

/-- yield is called. -/
theorem swl_yield {ops : Array Oper} {rest : List Oper} {dst : Option Tmp} {pos : String} {after : Array Edge} {x : Operand} {xs : List Operand} {vs : List Value} {ts : Array TypeId} {l : Nat} {R : Value → List HP → Prop}
    (hx : evO env x = some (.func (.yield l) #[] #[])) (hv : evL env xs = some vs) (hd : dstOk nt dst = true) (hY : YTr P l vs.toArray L R)
    (k : ∀ v L', R v L' → SWL P w0 nt L' (putE env dst v) ops rest Q) : SWL P w0 nt L env ops (⟨dst, .call ⟨.value x, xs.toArray, ts⟩, ty, pos, after, none⟩ :: rest) Q := .mk fun w a hs hr => by
  unfold wpListIn
  rw [if_pos (by simp [Region.wanted])]
  refine ⟨fun _ _ => trivial, ?_⟩
  obtain ⟨fn, tmps, assign, body, h1, h2⟩ := hY.h w0 w hs
  have h3 : (xs.toArray.map a.eval) = vs.toArray := by simp [evL_map hr hv]
  have h4 : (execOp a.eval ⟨dst, .call ⟨.value x, xs.toArray, ts⟩, ty, pos, after, none⟩).run P w = .ok (.round l fn tmps assign body) w := by
    simp only [execOp, resolve, h3, hr.eval hx, Deferred.ofValue, Sem.run_pure, Sem.run_bind, Result.andThen_ok, invoke]
    simpa using h1
  rw [semAt_of h4 (by simp), Oper.uponIn_round]
  refine ⟨fun hh => by simp [fen, Fence.wide] at hh, ?_⟩
  have h5 : RoundIn (fen nt.r) (0 - 1) P l fn tmps assign body w fun e w' => ∃ v L', e = .returned v ∧ Sat w0 w' L' ∧ R v L' := h2
  exact h5.mono fun e w' ⟨v, L', he, h6, h7⟩ => by subst he; exact (k v L' h7).h w' _ h6 (hr.put hd v)

/-- What stands behind a round's body. -/
def RQ (P : Program) (w0 : World) (l : Nat) (R : Value → List HP → Prop) : Exit → Act → World → Prop := roundPost P l fun e w' => ∃ v L', e = .returned v ∧ Sat w0 w' L' ∧ R v L'
instance PanicOK.rq {l : Nat} {R : Value → List HP → Prop} : PanicOK (RQ P w0 l R) := ⟨fun _ _ _ _ _ H => H, fun _ _ H => H⟩
/-- .. and behind its assignments -/
def AQ (P : Program) (w0 : World) (l : Nat) (body : Code) (R : Value → List HP → Prop) : Exit → Act → World → Prop :=
  Exit.then (fun a₁ w₁ => ∃ w₂, (Instr.beginRound l).run P w₁ = .ok () w₂ ∧ body.wpIn (fen (some l)) 0 P (RQ P w0 l R) a₁ w₂) (fun _ _ _ => False)
instance PanicOK.aq {l : Nat} {body : Code} {R : Value → List HP → Prop} : PanicOK (AQ P w0 l body R) := ⟨fun _ _ _ _ _ H => H, fun _ _ H => H⟩

theorem loop_set {l : Nat} {x : LR} {st st' : LoopState} {j j' : Option Code} {w : World} (hs : Sat w0 w (loopP l x st j :: F)) : w.heap[l]? = some (.loop (x.rc st j)) ∧ Sat w0 (w.putObj l (.loop (x.rc st' j'))) (loopP l x st' j' :: F) := by
  unfold loopP at *
  exact ⟨hs.read Reads.here, hs.set Upd.here rfl rfl rfl rfl rfl⟩

/-- A round: its assignments, then its body. -/
theorem ytr_round {n : Nat} {l : Nat} {x : LR} {args : List Value} {R : Value → List HP → Prop} (hT : TRel n env x.tmps) (hr : Rem (loopP l x .ready none) L F) (hlen : Nat.beq args.length x.ps.toList.length = true) (hlt : allLt n x.ps.toList = true)
    (h : ∀ w0, SW P w0 ⟨n, [], some l⟩ L (putsE env (pairs x.ps.toList args)) x.assign (AQ P w0 l x.body R)) : YTr P l args.toArray L R := .mk fun w0 w hs => by
  obtain ⟨h1, _⟩ := loop_set (st' := .ready) (j' := none) (hs.ent hr.ent)
  have hl : args.toArray.size = (x.rc .ready none).params.size := by simpa [LR.rc] using hlen
  refine ⟨_, _, _, _, run_yield h1 hl, roundIn_of_wpIn trivial ?_⟩
  have hT2 := hT.puts x.ps.toList args env x.tmps hlt
  have hfold : (((x.rc .ready none).params.zip args.toArray).foldl (fun tmps (t, a) => tmps.setIfInBounds t a) (x.rc .ready none).tmps) = ((x.ps.toList.zip args).foldl (fun tmps x => tmps.setIfInBounds x.1 x.2) x.tmps) := by
    rw [← Array.foldl_toList, Array.toList_zip]; rfl
  rw [hfold]
  exact (h w0).h w _ hs ⟨rfl, hT2.size, hT2.get⟩

theorem sx_begin {n : Nat} {l : Nat} {x : LR} {body : Code} {j : Option Code} {R : Value → List HP → Prop} (hr : Rem (loopP l x .ready j) L F) (h : SW P w0 ⟨n, [], some l⟩ (loopP l x .busy j :: F) env body (RQ P w0 l R)) :
    SX w0 ⟨n, [], some l⟩ L env .normal (AQ P w0 l body R) := .mk fun w a hs ha => by
  obtain ⟨h1, h2⟩ := loop_set (st' := .busy) (j' := j) (hs.ent hr.ent)
  exact ⟨_, run_beginRound h1 rfl, h.h _ a h2 ha⟩
theorem sx_round_on {l : Nat} {x : LR} {j : Option Code} {R : Value → List HP → Prop} (hr : Rem (loopP l x .busy j) L F) (L' : List HP) (hR : R (.bool true) L') (he : Ent (loopP l x .ready none :: F) L') : SX w0 nt L env .normal (RQ P w0 l R) := .mk fun w a hs ha => by
  obtain ⟨h1, h2⟩ := loop_set (st' := .ready) (j' := none) (hs.ent hr.ent)
  exact ⟨_, _, run_endRound none h1, _, L', rfl, h2.ent he, hR⟩
theorem sx_round_ret {l : Nat} {x : LR} {j : Option Code} {R : Value → List HP → Prop} (hr : Rem (loopP l x .busy j) L F) (L' : List HP) (hR : R (.bool false) L') (he : Ent (loopP l x .done (some .ret) :: F) L') : SX w0 nt L env .ret (RQ P w0 l R) := .mk fun w a hs ha => by
  obtain ⟨h1, h2⟩ := loop_set (st' := .done) (j' := some .ret) (hs.ent hr.ent)
  exact ⟨_, _, run_endRound (some .ret) h1, _, L', rfl, h2.ent he, hR⟩
theorem sx_round_exit {l id : Nat} {x : LR} {j : Option Code} {R : Value → List HP → Prop} (hr : Rem (loopP l x .busy j) L F) (L' : List HP) (hR : R (.bool false) L') (he : Ent (loopP l x .done (some (.exit id)) :: F) L') : SX w0 nt L env (.exit id) (RQ P w0 l R) := .mk fun w a hs ha => by
  obtain ⟨h1, h2⟩ := loop_set (st' := .done) (j' := some (.exit id)) (hs.ent hr.ent)
  exact ⟨_, _, run_endRound (some (.exit id)) h1, _, L', rfl, h2.ent he, hR⟩

/-- behind a loop over a function the activation bears a mark -/
def Cx.mark (c : Cx) (D : Nat) : Cx := c.defer (markD D)

/-- **'for .. := range g'**, out of a round. -/
theorem sw_rangeFunc {g : Operand} {ps : Array Tmp} {assign body : Code} {gf : FuncId} {fi ca : Array Value} {N : List HP → Prop} {X : Code → List HP → Prop} (hro : nt.r = none) (hg : evO env g = some (.func (.func gf) fi ca)) (hc : CallC P gf)
    (hseq : ∀ l x, x.ps = ps → x.assign = assign → x.body = body → TRel nt.n env x.tmps →
      Tr P gf (fi.toList ++ [Value.func (.yield l) #[] #[]] ++ ca.toList).toArray (loopP l x .ready none :: markP x.D :: L)
        (fun _ L' => (∃ F, L' = loopP l x .ready none :: markP x.D :: F ∧ N F) ∨ (∃ c F, L' = loopP l x .done (some c) :: markP x.D :: F ∧ X c F)))
    (hn : ∀ D F, N F → SX w0 (nt.mark D) (markP D :: F) env .normal Q)
    (hx : ∀ D c F, X c F → SW P w0 (nt.mark D) (markP D :: F) env c Q) : SW P w0 nt L env (.rangeFunc g ps assign body) Q := .mk fun w a hs hr => by
  refine wpIn_rangeFunc fun fn _ => ?_
  have hro' : (fen nt.r).round = none := hro
  rw [hro']
  obtain ⟨x, hx1⟩ : ∃ x : LR, x = ⟨fn, a.tmps, ps, assign, body, w.heap.size⟩ := ⟨_, rfl⟩
  have hev := hr.eval hg
  have hs1 := (hs.alloc (.deferred (some []))).alloc (.loop { state := .ready, pending := none, fn, tmps := a.tmps, params := ps, assign, body, defers := w.heap.size })
  rw [World.size_alloc] at hs1
  have hs2 : Sat w0 ((w.alloc (.deferred (some []))).alloc (.loop { state := .ready, pending := none, fn, tmps := a.tmps, params := ps, assign, body, defers := w.heap.size })) (loopP (w.heap.size + 1) x .ready none :: markP x.D :: L) := by
    unfold loopP markP; subst hx1; exact hs1
  have hT : TRel nt.n env x.tmps := by subst hx1; exact ⟨hr.size, hr.get⟩
  have hcall := (hseq (w.heap.size + 1) x (by rw [hx1]) (by rw [hx1]) (by rw [hx1]) hT).h w0 _ hs2
  refine ⟨_, _, _, { target := .fn (.func gf) ca, args := fi ++ #[.func (.yield (w.heap.size + 1)) #[] #[]] }, ((w.alloc (.deferred (some []))).alloc (.loop { state := .ready, pending := none, fn, tmps := a.tmps, params := ps, assign, body, defers := w.heap.size })), gf, (fi.toList ++ [Value.func (.yield (w.heap.size + 1)) #[] #[]] ++ ca.toList).toArray, _, run_enterLoop_outer fn a.tmps ps assign body, ?_, fun _ _ => trivial, ?_, fun hh => by simp [fen, Fence.wide] at hh, calls_fen nt.r (Calls.mono hcall ?_)⟩
  · have hev2 : ∀ v, a.eval (.const v) = v := fun _ => rfl
    simp only [resolve, rangeCall, hev, hev2, Deferred.ofValue, List.map_toArray, List.map_cons, List.map_nil, Sem.run_pure]
  · simp only [invoke, hc.h]
    have e : fi ++ #[Value.func (.yield (w.heap.size + 1)) #[] #[]] ++ ca = (fi.toList ++ [Value.func (.yield (w.heap.size + 1)) #[] #[]] ++ ca.toList).toArray := by simp
    rw [e]
  · rintro e w' ⟨v, L', rfl, h3, h4⟩
    have hrm : ∀ D, D = w.heap.size → Rel (nt.mark D) env { a with defers := [{ target := Target.collected w.heap.size, args := #[] }] ++ a.defers } := fun D hD => by
      subst hD; exact hr.defer (markD w.heap.size)
    have hD : x.D = w.heap.size := by rw [hx1]
    rcases h4 with ⟨F, rfl, hF⟩ | ⟨c, F, rfl, hF⟩
    · obtain ⟨h5, h6⟩ := loop_set (st' := .exhausted) (j' := none) h3
      exact ⟨none, _, run_endLoop h5 (by simp [LR.rc]), (hn x.D F hF).h _ _ (h6.ent (Ent.drop (Ent.refl _))) (hrm _ hD)⟩
    · obtain ⟨h5, h6⟩ := loop_set (st' := .exhausted) (j' := some c) h3
      exact ⟨some c, _, run_endLoop h5 (by simp [LR.rc]), (hx x.D c F hF).h _ _ (h6.ent (Ent.drop (Ent.refl _))) (hrm _ hD)⟩

/-- The way out of a function that has gone through loops over functions. -/
def marks : List Nat → List Deferred
  | [] => []
  | D :: r => markD D :: marks r
def marksP : List Nat → List HP
  | [] => []
  | D :: r => markP D :: marksP r
theorem leaves_marks {fn : Func} {tmps : Array Value} {R : Ending → World → Prop} : ∀ (Ds : List Nat) (w : World), Sat w0 w (marksP Ds ++ F) → (∀ w', Sat w0 w' F → LeavesInM Fence.wide 0 P fn tmps R [] .returning w') → LeavesInM Fence.wide 0 P fn tmps R (marks Ds) .returning w
  | [], w, hs, h => h w hs
  | D :: r, w, hs, h => by
    have hs' : Sat w0 w (pt D (.deferred (some [])) :: (marksP r ++ F)) := by
      have : Sat w0 w (markP D :: (marksP r ++ F)) := hs
      unfold markP at this; exact this
    refine ⟨by simp, .inl ⟨D, _, rfl, run_takeDeferred (hs'.read Reads.here), ?_⟩⟩
    have h2 : Sat w0 (w.putObj D (.deferred none)) (pt D (.deferred none) :: (marksP r ++ F)) := hs'.set Upd.here rfl rfl rfl rfl rfl
    exact leaves_marks r _ (h2.ent (Ent.drop (Ent.refl _))) h
theorem sx_ret_m {fn : Func} {R : Value → List HP → Prop} {v : Value} (Ds : List Nat) (hr : Rems (marksP Ds) L F) (hres : ∀ a w, Rel nt env a → Sat w0 w F → (results fn a.tmps).run P w = .ok v w) (L' : List HP) (hR : R v L') (he : Ent F L') {e : Exit} (hn : e = .normal ∨ e = .ret) (hd : nt.ds = marks Ds := by rfl) :
    SX w0 nt L env e (FQ P w0 fn R) := .mk fun w a hs hra => by
  have h0 := hra.defers.trans hd
  have key : LeavesInM Fence.wide 0 P fn a.tmps (fun e w' => ∃ v L', e = .returned v ∧ Sat w0 w' L' ∧ R v L') a.defers .returning w := by
    rw [h0]
    exact leaves_marks Ds w (hs.ent hr.ent) fun w' hs' => ⟨v, hres a w' hra hs', v, L', rfl, hs'.ent he, hR⟩
  rcases hn with rfl | rfl <;> exact key

/-! there is one; a fact -/
theorem sw_ex {α : Type} {p : α → HP} {c : Code} (h : ∀ a, SW P w0 nt (p a :: L) env c Q) : SW P w0 nt (ex p :: L) env c Q := .mk fun w a hs hr => by
  obtain ⟨x, H⟩ := own_ex hs.own
  exact (h x).h w a ⟨hs.os, hs.tape, hs.output, hs.size, hs.drawn, H⟩ hr
theorem swl_ex {α : Type} {p : α → HP} {ops : Array Oper} {rest : List Oper} (h : ∀ a, SWL P w0 nt (p a :: L) env ops rest Q) : SWL P w0 nt (ex p :: L) env ops rest Q := .mk fun w a hs hr => by
  obtain ⟨x, H⟩ := own_ex hs.own
  exact (h x).h w a ⟨hs.os, hs.tape, hs.output, hs.size, hs.drawn, H⟩ hr
theorem sx_ex {α : Type} {p : α → HP} {e : Exit} (h : ∀ a, SX w0 nt (p a :: L) env e Q) : SX w0 nt (ex p :: L) env e Q := .mk fun w a hs hr => by
  obtain ⟨x, H⟩ := own_ex hs.own
  exact (h x).h w a ⟨hs.os, hs.tape, hs.output, hs.size, hs.drawn, H⟩ hr
theorem tr_ex {α : Type} {p : α → HP} {f : FuncId} {args : Array Value} {R : Value → List HP → Prop} (h : ∀ a, Tr P f args (p a :: L) R) : Tr P f args (ex p :: L) R := .mk fun w0 w hs => by
  obtain ⟨x, H⟩ := own_ex hs.own
  exact (h x).h w0 w ⟨hs.os, hs.tape, hs.output, hs.size, hs.drawn, H⟩
theorem sw_fact {φ : Prop} {c : Code} (hr : Rem (fact φ) L F) (h : φ → SW P w0 nt F env c Q) : SW P w0 nt L env c Q := sw_ent hr.ent (sw_know (fun _ H => own_fact H) fun hp => sw_ent (Ent.drop (Ent.refl _)) (h hp))
theorem sx_fact {φ : Prop} {e : Exit} (hr : Rem (fact φ) L F) (h : φ → SX w0 nt F env e Q) : SX w0 nt L env e Q := sx_ent hr.ent (sx_know (fun _ H => own_fact H) fun hp => sx_ent (Ent.drop (Ent.refl _)) (h hp))
end
end Go.SL

/-
  OWN BASE, PART 21: a place in between, to which several ways lead.
-/
namespace Go.SL
open Go
def onesL : List (Nat × Value) → Bool
  | [] => true
  | (_, v) :: r => v.cells.toList.all Value.oneCell' && onesL r
theorem onesL_mem : ∀ {l : List (Nat × Value)}, onesL l = true → ∀ x ∈ cellsL l, ∀ u ∈ x.toList, u.oneCell' = true
  | [], _, x, hx, _, _ => by simp [cellsL] at hx
  | (_, v) :: r, h, x, hx, u, hu => by
    simp only [onesL, Bool.and_eq_true] at h
    rcases List.mem_cons.1 (show x ∈ v.cells :: cellsL r from hx) with rfl | hx
    · exact List.all_eq_true.1 h.1 u hu
    · exact onesL_mem h.2 x hx u hu
section
variable {P : Program} {w0 : World} {nt : Cx} {L : List HP} {env : Env} {ty : TypeId}
theorem R_addu64 {t t' : TypeId} {x y : Operand} {a b : Int} (hx : evO env x = some (.int .u64 a)) (hy : evO env y = some (.int .u64 b)) (h : 0 ≤ a + b ∧ a + b ≤ 18446744073709551615) : OpR P w0 nt L env (.binOp .add t x y t') ty (.int .u64 (a + b)) := by
  have := R_add (P := P) (w0 := w0) (nt := nt) (L := L) (env := env) (ty := ty) (t := t) (t' := t') hx hy
  rwa [wrap_u64_of h] at this
end
section
variable {P : Program} {w0 : World} {nt : Cx} {L : List HP} {env : Env} {Q : Exit → Act → World → Prop}
def Mid {γ : Type} (w0 : World) (nt : Cx) (E : γ → Env) (H : γ → List HP) (C : γ → Prop) : Exit → Act → World → Prop
  | .normal, a, w => ∃ g, C g ∧ Sat w0 w (H g) ∧ Rel nt (E g) a
  | _, _, _ => False
instance PanicOK.mid {γ : Type} {E : γ → Env} {H : γ → List HP} {C : γ → Prop} : PanicOK (Mid w0 nt E H C) := ⟨fun _ _ _ _ _ h => h, fun _ _ h => h⟩
theorem sw_mid {γ : Type} {c : Code} (E : γ → Env) (H : γ → List HP) (C : γ → Prop) (h1 : SW P w0 nt L env c (Mid w0 nt E H C)) (h2 : ∀ g, C g → SX w0 nt (H g) (E g) .normal Q) : SW P w0 nt L env c Q :=
  sw_cut h1 fun e a w h => by
    cases e with
    | normal => obtain ⟨g, hc, hs, hr⟩ := h; exact (h2 g hc).h w a hs hr
    | _ => exact h.elim
theorem sx_mid {γ : Type} {E : γ → Env} {H : γ → List HP} {C : γ → Prop} (g : γ) (hC : C g) (hE : subE (E g) env) (hH : Ent L (H g)) : SX w0 nt L env .normal (Mid w0 nt E H C) := .mk fun _ _ hs hr => ⟨g, hC, hs.ent hH, hr.sub hE⟩
end
end Go.SL
