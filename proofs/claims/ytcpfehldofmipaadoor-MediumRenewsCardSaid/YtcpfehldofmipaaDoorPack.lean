/-
  Records of numbers.
-/
import Derived.Test.YtcpfehldofmipaaDoorCrc
namespace Go.Proofs.YtcpfehldofmipaaDoor
open Go Go.SL Go.Proofs

structure Num where
  w : Int
  v : Int
def Num.cells (x : Num) : Array Value := #[.int .i64 x.w, .int .u64 x.v]
def Num.ok (x : Num) : Prop := 1 ≤ x.w ∧ x.w ≤ 8 ∧ (x.w < 8 → bShr .u64 x.v (8 * x.w) = 0)
def numB (x : Num) : List Int := (List.range x.w.toNat).map fun i : Nat => IntKind.u8.wrap (bShr .u64 x.v (8 * (x.w - 1 - (i : Int))))
def packF (l : List Num) : List Int := l.flatMap numB
theorem numB_len (x : Num) : (numB x).length = x.w.toNat := by simp [numB]
theorem numB_succ (x : Num) {i : Nat} (h : i < x.w.toNat) : (numB x).take (i + 1) = (numB x).take i ++ [IntKind.u8.wrap (bShr .u64 x.v (8 * (x.w - 1 - (i : Int))))] := by
  rw [List.take_succ_eq_append_getElem (by rw [numB_len]; exact h)]; simp [numB]
theorem num_get {l : List Num} {g : Nat} (h : g < l.length) : (l.map Num.cells).getD g #[] = l[g].cells := by simp [h]
def sizeN (l : List Num) : Int := (l.map Num.w).sum
theorem packF_len : ∀ {l : List Num}, (∀ x ∈ l, x.ok) → ((packF l).length : Int) = sizeN l ∧ sizeN l ≤ 8 * l.length
  | [], _ => by simp [packF, sizeN]
  | x :: r, h => by
    have h1 := h x (by simp)
    have h2 := packF_len (l := r) (fun y hy => h y (by simp [hy]))
    simp only [packF, sizeN, List.flatMap_cons, List.length_append, numB_len, List.map_cons, List.sum_cons, List.length_cons] at h2 ⊢
    unfold Num.ok at h1
    omega

theorem pack_isWidth (w : Int) {L : List HP} : Tr Tryd.prog 113 [.int .i64 w].toArray L (fun v L' => v = .bool (decide (1 ≤ w ∧ w ≤ 8)) ∧ L = L') := by
  refine tr_enter Tryd.func113 rfl Tryd.ntmps113 rfl fun w0 => ?_
  repeat' (first
    | refine swl_op ?_
    | (refine s1_move ?_; refine sc_r (R_move (by rfl)) (by rfl) ?_)
    | (refine s1_assign ?_; refine sc_r (R_assign (by rfl)) (by rfl) ?_)
    | (refine s1_pick ?_; first | refine sc_r (R_pick_t (by rfl) (by rfl)) (by rfl) ?_ | refine sc_r (R_pick_f (by rfl) (by rfl)) (by rfl) ?_)
    | (refine s1_bin ?_; first | refine sc_r (R_leq (by rfl) (by rfl)) (by rfl) ?_ | refine sc_r (R_geq (by rfl) (by rfl)) (by rfl) ?_)
    | refine swl_nil ?_
    | refine sx_next ?_
    | refine sw_seq ?_
    | refine sw_region ?_
    | refine swl_g_on (by rfl) (by rfl) ?_
    | refine swl_g_off (by rfl) (by rfl) (by rfl) (by rfl) ?_
    | refine swl_g_dec (by rfl) (by rfl) (fun hp => ?_) (fun hp => ?_)
    | refine sw_ret ?_
    | fail)
  all_goals refine sx_ret_of (res1 rfl (ResOne.tmp rfl)) L ⟨?_, rfl⟩ (by (repeat (first | exact Ent.refl _ | exact Ent.nil | (apply Ent.pick; focus ((repeat (first | exact Rem.here | apply Rem.there)); done)) | apply Ent.drop)))
  all_goals (congr 1; simp; omega)
theorem pack_isWidth' (w : Int) (h : 1 ≤ w ∧ w ≤ 8) {L : List HP} : Tr Tryd.prog 113 [.int .i64 w].toArray L (fun v L' => v = .bool true ∧ L = L') := by
  have := pack_isWidth w (L := L)
  rwa [decide_eq_true h] at this

set_option maxHeartbeats 1000000 in
theorem pack_Pack (l : List Num) (hok : ∀ x ∈ l, x.ok) (h1000 : l.length ≤ 1000) {L : List HP} {p : Option Addr} {m cp : Nat} (hl : SlC L p 2 m cp (l.map Num.cells)) :
    Tr Tryd.prog 100 [.slice p m cp].toArray L (fun v L' => ∃ s, v = .tuple #[s, .int .i64 0] ∧ L' = vec 5 1 ((packF l).map u8c) s :: L) := by
  have hlen : l.length = m := by simpa using hl.len
  refine tr_enter Tryd.func100 rfl Tryd.ntmps100 rfl fun w0 => ?_
  repeat' (first
    | refine swl_op ?_
    | (refine s1_move ?_; refine sc_r (R_move (by rfl)) (by rfl) ?_)
    | (refine s1_assign ?_; refine sc_r (R_assign (by rfl)) (by rfl) ?_)
    | (refine s1_call ?_; refine sc_r (R_len (by rfl)) (by rfl) ?_)
    | refine swl_nil ?_
    | refine sx_next ?_
    | refine sw_seq ?_
    | refine sw_region ?_
    | refine sw_block ?_
    | fail)
  refine sw_loop (γ := Nat) (fun g => m - g) (fun g => [(0, .slice p m cp), (11, .slice p m cp), (12, .int .i64 m), (13, .int .i64 g), (4, .int .i64 (sizeN (l.take g)))]) (fun _ => L) (fun g => g ≤ m) 0 (by omega)
    (subE.cons rfl (subE.cons rfl (subE.cons rfl (subE.cons rfl (subE.cons rfl subE.nil))))) (by (repeat (first | exact Ent.refl _ | exact Ent.nil | (apply Ent.pick; focus ((repeat (first | exact Rem.here | apply Rem.there)); done)) | apply Ent.drop))) ?_
  intro g hg
  have hsz := packF_len (l := l.take g) (fun x hx => hok x (List.mem_of_mem_take hx))
  rw [List.length_take] at hsz
  by_cases hlt : g < m
  · obtain ⟨b1, o1, rfl⟩ := hl.ptr (by omega)
    have hl1 : g < l.length := by omega
    have he1 := num_get hl1
    have hts := List.take_succ_eq_append_getElem hl1
    have hx := hok l[g] (List.getElem_mem hl1)
    generalize l[g] = x at *
    have hx' : (sizeN (l.take (g + 1))) = sizeN (l.take g) + x.w := by rw [hts]; simp [sizeN]
    obtain ⟨hx1, hx2, hx3⟩ := hx
    unfold Num.cells at he1
    by_cases h8 : x.w < 8
    · have h3 := hx3 h8
      repeat' (first
    | (refine s1_bin ?_; refine sc_r (show OpR _ _ _ _ _ _ _ (.int .u64 0) from h3 ▸ R_shr (by rfl) (by rfl) (by omega)) (by rfl) ?_)
    | refine swl_op ?_
    | (refine s1_move ?_; refine sc_r (R_move (by rfl)) (by rfl) ?_)
    | (refine s1_load ?_; first | refine sc_r (L_load' (by rfl) (by infer_instance) (by rfl)) (by rfl) ?_ | refine sc_r (L_load_el (by rfl) (by infer_instance) (by infer_instance) (by omega) (by first | assumption | rfl)) (by rfl) ?_)
    | (refine s1_fieldAddr ?_; refine sc_r (R_fieldAddr (by rfl)) (by rfl) ?_)
    | (refine s1_assign ?_; refine sc_r (R_assign (by rfl)) (by rfl) ?_)
    | (refine s1_pick ?_; refine sc_r (R_pick_t (by rfl) (by rfl)) (by rfl) ?_)
    | (refine s1_bin ?_; first | refine sc_r (R_lss (by rfl) (by rfl)) (by rfl) ?_ | refine sc_r (R_add64 (by rfl) (by rfl) (by omega)) (by rfl) ?_ | refine sc_r (R_neq (by rfl) (by rfl)) (by rfl) ?_ | refine sc_r (R_mul64 (by rfl) (by rfl) (by first | assumption | omega)) (by rfl) ?_)
    | (refine s1_call ?_; (refine sc_c (by rfl) (C_call (by rfl) (by infer_instance) (by rfl) (by rfl) (pack_isWidth' x.w ⟨hx1, hx2⟩)) (by rfl) ?_; rintro _ _ ⟨rfl, rfl⟩))
    | (refine s1_indexAddr ?_; refine sc_r (R_indexAddr (by rfl) (by rfl) (by omega)) (by rfl) ?_)
    | (refine s1_store ?_; (refine sc_w (by rfl) (W_storeAll (by rfl) (by rfl) (by infer_instance) (by rfl) (by rfl) (by rfl)) (by rfl) ?_; rintro _ _ ⟨rfl, rfl⟩))
    | (refine s1_alloc ?_; (refine sc_w (by rfl) W_allocA (by rfl) ?_; rintro _ _ ⟨_, rfl, rfl⟩))
    | (refine s1_any ?_; refine sc_r (R_not (by rfl)) (by rfl) ?_)
    | refine swl_nil ?_
    | refine sx_next ?_
    | refine sw_seq ?_
    | refine sw_region ?_
    | refine sw_block ?_
    | refine swl_g_on (by rfl) (by rfl) ?_
    | refine swl_g_pos (by rfl) (by rfl) (by first | assumption | omega) ?_
    | refine sx_block_normal ?_
    | refine sw_cond_false (by rfl) ?_
    | refine sw_cond_pos (by rfl) (by first | assumption | omega) ?_
    | refine sw_skip ?_
    | fail)
      refine sx_back (g + 1) (by omega) (by omega) ?_ (by (repeat (first | exact Ent.refl _ | exact Ent.nil | (apply Ent.pick; focus ((repeat (first | exact Rem.here | apply Rem.there)); done)) | apply Ent.drop)))
      rw [hx']
      exact (subE.cons rfl (subE.cons rfl (subE.cons rfl (subE.cons rfl (subE.cons rfl subE.nil)))))
    · repeat' (first
    | refine swl_op ?_
    | (refine s1_move ?_; refine sc_r (R_move (by rfl)) (by rfl) ?_)
    | (refine s1_load ?_; first | refine sc_r (L_load' (by rfl) (by infer_instance) (by rfl)) (by rfl) ?_ | refine sc_r (L_load_el (by rfl) (by infer_instance) (by infer_instance) (by omega) (by first | assumption | rfl)) (by rfl) ?_)
    | (refine s1_fieldAddr ?_; refine sc_r (R_fieldAddr (by rfl)) (by rfl) ?_)
    | (refine s1_assign ?_; refine sc_r (R_assign (by rfl)) (by rfl) ?_)
    | (refine s1_pick ?_; refine sc_r (R_pick_f (by rfl) (by rfl)) (by rfl) ?_)
    | (refine s1_bin ?_; first | refine sc_r (R_lss (by rfl) (by rfl)) (by rfl) ?_ | refine sc_r (R_add64 (by rfl) (by rfl) (by omega)) (by rfl) ?_)
    | (refine s1_call ?_; (refine sc_c (by rfl) (C_call (by rfl) (by infer_instance) (by rfl) (by rfl) (pack_isWidth' x.w ⟨hx1, hx2⟩)) (by rfl) ?_; rintro _ _ ⟨rfl, rfl⟩))
    | (refine s1_indexAddr ?_; refine sc_r (R_indexAddr (by rfl) (by rfl) (by omega)) (by rfl) ?_)
    | (refine s1_store ?_; (refine sc_w (by rfl) (W_storeAll (by rfl) (by rfl) (by infer_instance) (by rfl) (by rfl) (by rfl)) (by rfl) ?_; rintro _ _ ⟨rfl, rfl⟩))
    | (refine s1_alloc ?_; (refine sc_w (by rfl) W_allocA (by rfl) ?_; rintro _ _ ⟨_, rfl, rfl⟩))
    | (refine s1_any ?_; refine sc_r (R_not (by rfl)) (by rfl) ?_)
    | refine swl_nil ?_
    | refine sx_next ?_
    | refine sw_seq ?_
    | refine sw_region ?_
    | refine sw_block ?_
    | refine swl_g_off (by rfl) (by rfl) (by rfl) (by rfl) ?_
    | refine swl_g_neg (by rfl) (by rfl) (by first | assumption | omega) ?_
    | refine sx_block_normal ?_
    | refine sw_cond_false (by rfl) ?_
    | refine sw_cond_pos (by rfl) (by first | assumption | omega) ?_
    | refine sw_skip ?_
    | fail)
      refine sx_back (g + 1) (by omega) (by omega) ?_ (by (repeat (first | exact Ent.refl _ | exact Ent.nil | (apply Ent.pick; focus ((repeat (first | exact Rem.here | apply Rem.there)); done)) | apply Ent.drop)))
      rw [hx']
      exact (subE.cons rfl (subE.cons rfl (subE.cons rfl (subE.cons rfl (subE.cons rfl subE.nil)))))
  · rw [List.take_of_length_le (by omega)] at hsz ⊢
    have hb0 : 0 ≤ sizeN l ∧ sizeN l ≤ 8000 := by omega
    have hpl : (packF l).length ≤ 8000 := by have := packF_len hok; omega
    repeat' (first
    | refine swl_op ?_
    | (refine s1_move ?_; refine sc_r (R_move (by rfl)) (by rfl) ?_)
    | (refine s1_assign ?_; refine sc_r (R_assign (by rfl)) (by rfl) ?_)
    | (refine s1_bin ?_; refine sc_r (R_lss (by rfl) (by rfl)) (by rfl) ?_)
    | (refine s1_call ?_; refine sc_r (R_len (by rfl)) (by rfl) ?_)
    | (refine s1_any ?_; (refine sc_w (by rfl) (W_makeSlice (n' := 0) (c' := (sizeN l).toNat) (zc := u8c 0) (by rfl) (by rfl) (by rfl) (by rfl) (by rfl) (by omega) (by omega)) (by rfl) ?_; rintro _ _ ⟨b0, rfl, hok0, rfl⟩))
    | refine swl_nil ?_
    | refine sx_next ?_
    | refine sw_seq ?_
    | refine sw_region ?_
    | refine sw_block ?_
    | refine sx_past_exit ?_
    | refine sx_block_here ?_
    | refine sw_cond_neg (by rfl) (by first | assumption | omega) ?_
    | refine sw_exit ?_
    | fail)
    refine sw_loop (γ := Nat × Value) (fun g => m - g.1) (fun g => [(0, .slice p m cp), (7, g.2), (40, .slice p m cp), (41, .int .i64 m), (42, .int .i64 g.1)]) (fun g => vec 5 1 ((packF (l.take g.1)).map u8c) g.2 :: L) (fun g => g.1 ≤ m) (0, .slice (some ⟨b0, 0, none⟩) 0 (sizeN l).toNat) (by simp)
      (subE.cons rfl (subE.cons rfl (subE.cons rfl (subE.cons rfl (subE.cons rfl subE.nil))))) (by exact Ent.refl _) ?_
    rintro ⟨g, s⟩ hg
    dsimp only at hg ⊢
    by_cases hlt : g < m
    · obtain ⟨b1, o1, rfl⟩ := hl.ptr (by omega)
      have hl1 : g < l.length := by omega
      have he1 := num_get hl1
      have hts := List.take_succ_eq_append_getElem hl1
      have hx := hok l[g] (List.getElem_mem hl1)
      have hpg := packF_len (l := l.take g) (fun x hx => hok x (List.mem_of_mem_take hx))
      rw [List.length_take] at hpg
      generalize l[g] = x at *
      have hx' : packF (l.take (g + 1)) = packF (l.take g) ++ numB x := by rw [hts]; simp [packF]
      obtain ⟨hx1, hx2, hx3⟩ := hx
      unfold Num.cells at he1
      generalize packF (l.take g) = A at *
      repeat' (first
    | refine swl_op ?_
    | (refine s1_move ?_; refine sc_r (R_move (by rfl)) (by rfl) ?_)
    | (refine s1_load ?_; first | refine sc_r (L_load' (by rfl) (by infer_instance) (by rfl)) (by rfl) ?_ | refine sc_r (L_load_el (by rfl) (by infer_instance) (by infer_instance) (by omega) (by first | assumption | rfl)) (by rfl) ?_)
    | (refine s1_fieldAddr ?_; refine sc_r (R_fieldAddr (by rfl)) (by rfl) ?_)
    | (refine s1_bin ?_; refine sc_r (R_lss (by rfl) (by rfl)) (by rfl) ?_)
    | (refine s1_indexAddr ?_; refine sc_r (R_indexAddr (by rfl) (by rfl) (by omega)) (by rfl) ?_)
    | (refine s1_store ?_; (refine sc_w (by rfl) (W_storeAll (by rfl) (by rfl) (by infer_instance) (by rfl) (by rfl) (by rfl)) (by rfl) ?_; rintro _ _ ⟨rfl, rfl⟩))
    | (refine s1_alloc ?_; (refine sc_w (by rfl) W_allocA (by rfl) ?_; rintro _ _ ⟨_, rfl, rfl⟩))
    | refine swl_nil ?_
    | refine sx_next ?_
    | refine sw_seq ?_
    | refine sw_region ?_
    | refine sw_block ?_
    | refine sw_cond_pos (by rfl) (by first | assumption | omega) ?_
    | refine sw_skip ?_
    | fail)
      rename_i b9
      refine sw_loop (γ := Nat × Value) (fun i => x.w.toNat - i.1) (fun i => [(0, .slice (some ⟨b1, o1, none⟩) m cp), (7, i.2), (40, .slice (some ⟨b1, o1, none⟩) m cp), (41, .int .i64 m), (42, .int .i64 g), (9, .pointer (some ⟨b9, 0, none⟩)), (47, .int .i64 x.w), (48, .int .i64 i.1)]) (fun i => vec 5 1 ((A ++ (numB x).take i.1).map u8c) i.2 :: pt b9 (.cells #[.int .i64 x.w, .int .u64 x.v] 135) :: L) (fun i => i.1 ≤ x.w.toNat) (0, s) (by simp)
        (subE.cons rfl (subE.cons rfl (subE.cons rfl (subE.cons rfl (subE.cons rfl (subE.cons rfl (subE.cons rfl (subE.cons rfl subE.nil)))))))) (by rw [List.take_zero, List.append_nil]; (repeat (first | exact Ent.refl _ | exact Ent.nil | (apply Ent.pick; focus ((repeat (first | exact Rem.here | apply Rem.there)); done)) | apply Ent.drop))) ?_
      rintro ⟨i, s1⟩ hi
      dsimp only at hi ⊢
      by_cases hlt2 : i < x.w.toNat
      · have hns := numB_succ x hlt2
        have hle : ((A ++ (numB x).take i).map u8c).length ≤ 9000 := by simp [numB_len]; omega
        repeat' (first
    | refine swl_op ?_
    | (refine s1_move ?_; refine sc_r (R_move (by rfl)) (by rfl) ?_)
    | (refine s1_load ?_; refine sc_r (L_load' (by rfl) (by infer_instance) (by rfl)) (by rfl) ?_)
    | (refine s1_fieldAddr ?_; refine sc_r (R_fieldAddr (by rfl)) (by rfl) ?_)
    | (refine s1_assign ?_; refine sc_r (R_assign (by rfl)) (by rfl) ?_)
    | (refine s1_bin ?_; first | refine sc_r (R_lss (by rfl) (by rfl)) (by rfl) ?_ | refine sc_r (R_add64 (by rfl) (by rfl) (by omega)) (by rfl) ?_ | refine sc_r (R_sub64 (by rfl) (by rfl) (by omega)) (by rfl) ?_ | refine sc_r (R_mul64 (by rfl) (by rfl) (by first | assumption | omega)) (by rfl) ?_ | refine sc_r (R_shr (by rfl) (by rfl) (by omega)) (by rfl) ?_)
    | (refine s1_call ?_; (refine sc_w (by rfl) (W_append1 (by rfl) (by rfl) (by focus ((repeat (first | exact Rem.here | apply Rem.there)); done)) (by infer_instance) (by rfl) (by rfl) (by first | assumption | omega)) (by rfl) ?_; rintro _ _ rfl))
    | (refine s1_conv ?_; refine sc_r (R_conv (by rfl)) (by rfl) ?_)
    | (refine s1_any ?_; (refine sc_w (by rfl) (W_buildSlice1s (by rfl) (by rfl)) (by rfl) ?_; rintro _ _ ⟨_, rfl, rfl⟩))
    | refine swl_nil ?_
    | refine sx_next ?_
    | refine sw_seq ?_
    | refine sw_region ?_
    | refine sw_block ?_
    | refine sx_block_normal ?_
    | refine sw_cond_pos (by rfl) (by first | assumption | omega) ?_
    | refine sw_skip ?_
    | fail)
        refine sx_back (i + 1, _) (by simp only; omega) (by simp only; omega) (subE.cons rfl (subE.cons rfl (subE.cons rfl (subE.cons rfl (subE.cons rfl (subE.cons rfl (subE.cons rfl (subE.cons rfl subE.nil)))))))) ?_
        dsimp only
        rw [hns, ← List.append_assoc, List.map_append (l₁ := A ++ (numB x).take i)]
        (repeat (first | exact Ent.refl _ | exact Ent.nil | (apply Ent.pick; focus ((repeat (first | exact Rem.here | apply Rem.there)); done)) | apply Ent.drop))
      · repeat' (first
    | refine swl_op ?_
    | (refine s1_move ?_; refine sc_r (R_move (by rfl)) (by rfl) ?_)
    | (refine s1_bin ?_; first | refine sc_r (R_lss (by rfl) (by rfl)) (by rfl) ?_ | refine sc_r (R_add64 (by rfl) (by rfl) (by omega)) (by rfl) ?_)
    | refine swl_nil ?_
    | refine sx_next ?_
    | refine sw_seq ?_
    | refine sw_region ?_
    | refine sx_past_exit ?_
    | refine sx_block_normal ?_
    | refine sx_block_here ?_
    | refine sw_cond_neg (by rfl) (by first | assumption | omega) ?_
    | refine sw_exit ?_
    | fail)
        refine sx_back (g + 1, _) (by simp only; omega) (by simp only; omega) (subE.cons rfl (subE.cons rfl (subE.cons rfl (subE.cons rfl (subE.cons rfl subE.nil))))) ?_
        dsimp only
        rw [hx', List.take_of_length_le (by rw [numB_len]; omega)]
        (repeat (first | exact Ent.refl _ | exact Ent.nil | (apply Ent.pick; focus ((repeat (first | exact Rem.here | apply Rem.there)); done)) | apply Ent.drop))
    · repeat' (first
    | refine swl_op ?_
    | (refine s1_move ?_; refine sc_r (R_move (by rfl)) (by rfl) ?_)
    | (refine s1_assign ?_; refine sc_r (R_assign (by rfl)) (by rfl) ?_)
    | (refine s1_bin ?_; refine sc_r (R_lss (by rfl) (by rfl)) (by rfl) ?_)
    | refine swl_nil ?_
    | refine sx_next ?_
    | refine sw_seq ?_
    | refine sw_region ?_
    | refine sx_past_exit ?_
    | refine sx_block_here ?_
    | refine sw_cond_neg (by rfl) (by first | assumption | omega) ?_
    | refine sw_ret ?_
    | refine sw_exit ?_
    | fail)
      rw [List.take_of_length_le (by omega)]
      exact sx_ret_of (res2 rfl (ResOne.tmp rfl) (ResOne.tmp rfl)) _ ⟨_, rfl, rfl⟩ (by (repeat (first | exact Ent.refl _ | exact Ent.nil | (apply Ent.pick; focus ((repeat (first | exact Rem.here | apply Rem.there)); done)) | apply Ent.drop)))

def clearF (l : List Int) (k : Int) : Bool := decide (0 ≤ k ∧ k ≤ l.length) && (l.drop k.toNat).all fun z => decide (z = 0)

theorem pack_Clear (l : List Int) (k : Int) {L : List HP} {p : Option Addr} {n c : Nat} (hl : SlC L p 1 n c (l.map u8c)) :
    Tr Tryd.prog 56 [.slice p n c, .int .i64 k].toArray L (fun v L' => v = .bool (clearF l k) ∧ L = L') := by
  have hlen : l.length = n := by simpa using hl.len
  have hbd := hl.bd
  refine tr_enter Tryd.func56 rfl Tryd.ntmps56 rfl fun w0 => ?_
  by_cases hk : 0 ≤ k ∧ k ≤ n
  · repeat' (first
    | refine swl_op ?_
    | (refine s1_move ?_; refine sc_r (R_move (by rfl)) (by rfl) ?_)
    | (refine s1_assign ?_; refine sc_r (R_assign (by rfl)) (by rfl) ?_)
    | (refine s1_pick ?_; refine sc_r (R_pick_f (by rfl) (by rfl)) (by rfl) ?_)
    | (refine s1_bin ?_; first | refine sc_r (R_lss (by rfl) (by rfl)) (by rfl) ?_ | refine sc_r (R_gtr (by rfl) (by rfl)) (by rfl) ?_ | refine sc_r (R_sub64 (by rfl) (by rfl) (by omega)) (by rfl) ?_)
    | (refine s1_call ?_; refine sc_r (R_len (by rfl)) (by rfl) ?_)
    | refine swl_nil ?_
    | refine sx_next ?_
    | refine sw_seq ?_
    | refine sw_region ?_
    | refine sw_block ?_
    | refine swl_g_on (by rfl) (by rfl) ?_
    | refine swl_g_neg (by rfl) (by rfl) (by first | assumption | omega) ?_
    | refine sw_cond_neg (by rfl) (by first | assumption | omega) ?_
    | refine sw_skip ?_
    | fail)
    refine sw_loop (γ := Nat) (fun i => n - i) (fun i => [(0, .slice p n c), (1, .int .i64 k), (17, .int .i64 (n - k)), (18, .int .i64 i)]) (fun _ => L) (fun i => (i : Int) ≤ n - k ∧ ∀ j < i, l[k.toNat + j]? = some 0) 0 ⟨by omega, by simp⟩
      (subE.cons rfl (subE.cons rfl (subE.cons rfl (subE.cons rfl subE.nil)))) (by (repeat (first | exact Ent.refl _ | exact Ent.nil | (apply Ent.pick; focus ((repeat (first | exact Rem.here | apply Rem.there)); done)) | apply Ent.drop))) ?_
    intro i ⟨hi, hj⟩
    by_cases hlt : (i : Int) < n - k
    · obtain ⟨b0, o0, rfl⟩ := hl.ptr (by omega)
      have hl1 : k.toNat + i < l.length := by omega
      have he1 : (l.map u8c).getD ((k + (i : Int)).toNat) #[] = #[Value.int .u8 l[k.toNat + i]] := by
        rw [show (k + (i : Int)).toNat = k.toNat + i by omega]; exact u8_get hl1
      have hgl : l[k.toNat + i]? = some l[k.toNat + i] := List.getElem?_eq_getElem hl1
      generalize l[k.toNat + i] = z at *
      repeat' (first
    | refine swl_op ?_
    | (refine s1_move ?_; refine sc_r (R_move (by rfl)) (by rfl) ?_)
    | (refine s1_load ?_; refine sc_r (L_load_el1 (by rfl) (by infer_instance) (by omega) (by first | assumption | rfl)) (by rfl) ?_)
    | (refine s1_assign ?_; refine sc_r (R_assign (by rfl)) (by rfl) ?_)
    | (refine s1_bin ?_; first | refine sc_r (R_lss (by rfl) (by rfl)) (by rfl) ?_ | refine sc_r (R_add64 (by rfl) (by rfl) (by omega)) (by rfl) ?_ | refine sc_r (R_neq (by rfl) (by rfl)) (by rfl) ?_)
    | (refine s1_indexAddr ?_; refine sc_r (R_indexAddr (by rfl) (by rfl) (by omega)) (by rfl) ?_)
    | refine swl_nil ?_
    | refine sx_next ?_
    | refine sw_seq ?_
    | refine sw_region ?_
    | refine sw_block ?_
    | refine sx_past_ret ?_
    | refine sx_block_normal ?_
    | refine sx_block_ret ?_
    | refine sw_cond_pos (by rfl) (by first | assumption | omega) ?_
    | refine sw_cond_not (by rfl) (fun hp => ?_) (fun hp => ?_)
    | refine sw_ret ?_
    | refine sw_skip ?_
    | fail)
      · refine sx_ret_of (res1 rfl (ResOne.tmp rfl)) L ⟨?_, rfl⟩ (by (repeat (first | exact Ent.refl _ | exact Ent.nil | (apply Ent.pick; focus ((repeat (first | exact Rem.here | apply Rem.there)); done)) | apply Ent.drop)))
        have : clearF l k = false := by
          simp only [clearF, Bool.and_eq_false_iff, List.all_eq_false]
          refine .inr ⟨z, ?_, by simpa using hp⟩
          rw [List.mem_iff_getElem?]
          exact ⟨i, by rw [List.getElem?_drop]; exact hgl⟩
        rw [this]
      · refine sx_back (i + 1) (by omega) ⟨by omega, fun j hj1 => ?_⟩ (subE.cons rfl (subE.cons rfl (subE.cons rfl (subE.cons rfl subE.nil)))) (by (repeat (first | exact Ent.refl _ | exact Ent.nil | (apply Ent.pick; focus ((repeat (first | exact Rem.here | apply Rem.there)); done)) | apply Ent.drop)))
        rcases Nat.lt_or_ge j i with h | h
        · exact hj j h
        · obtain rfl : j = i := by omega
          rw [hgl, hp]
    · repeat' (first
    | refine swl_op ?_
    | (refine s1_assign ?_; refine sc_r (R_assign (by rfl)) (by rfl) ?_)
    | (refine s1_bin ?_; refine sc_r (R_lss (by rfl) (by rfl)) (by rfl) ?_)
    | refine swl_nil ?_
    | refine sx_next ?_
    | refine sw_seq ?_
    | refine sw_region ?_
    | refine sx_past_exit ?_
    | refine sx_block_here ?_
    | refine sw_cond_neg (by rfl) (by first | assumption | omega) ?_
    | refine sw_ret ?_
    | refine sw_exit ?_
    | fail)
      refine sx_ret_of (res1 rfl (ResOne.tmp rfl)) L ⟨?_, rfl⟩ (by (repeat (first | exact Ent.refl _ | exact Ent.nil | (apply Ent.pick; focus ((repeat (first | exact Rem.here | apply Rem.there)); done)) | apply Ent.drop)))
      have : clearF l k = true := by
        simp only [clearF, Bool.and_eq_true, decide_eq_true_eq, List.all_eq_true]
        refine ⟨⟨hk.1, by omega⟩, fun z hz => ?_⟩
        obtain ⟨j, hj1⟩ := List.mem_iff_getElem?.1 hz
        rw [List.getElem?_drop] at hj1
        have h2 : k.toNat + j < l.length := (List.getElem?_eq_some_iff.1 hj1).1
        rw [hj j (by omega)] at hj1
        exact (Option.some.inj hj1).symm
      rw [this]
  · have hcf : clearF l k = false := by
      simp only [clearF, Bool.and_eq_false_iff, decide_eq_false_iff_not]; exact .inl (by omega)
    rw [hcf]
    repeat' (first
    | refine swl_op ?_
    | (refine s1_move ?_; refine sc_r (R_move (by rfl)) (by rfl) ?_)
    | (refine s1_assign ?_; refine sc_r (R_assign (by rfl)) (by rfl) ?_)
    | (refine s1_pick ?_; first | refine sc_r (R_pick_t (by rfl) (by rfl)) (by rfl) ?_ | refine sc_r (R_pick_f (by rfl) (by rfl)) (by rfl) ?_)
    | (refine s1_bin ?_; first | refine sc_r (R_lss (by rfl) (by rfl)) (by rfl) ?_ | refine sc_r (R_gtr (by rfl) (by rfl)) (by rfl) ?_)
    | (refine s1_call ?_; refine sc_r (R_len (by rfl)) (by rfl) ?_)
    | refine swl_nil ?_
    | refine sx_next ?_
    | refine sw_seq ?_
    | refine sw_region ?_
    | refine swl_g_on (by rfl) (by rfl) ?_
    | refine swl_g_off (by rfl) (by rfl) (by rfl) (by rfl) ?_
    | refine swl_g_dec (by rfl) (by rfl) (fun hp => ?_) (fun hp => ?_)
    | refine sx_past_ret ?_
    | refine sw_cond_true (by rfl) ?_
    | refine sw_cond_pos (by rfl) (by first | assumption | omega) ?_
    | refine sw_ret ?_
    | fail)
    all_goals exact sx_ret_of (res1 rfl (ResOne.tmp rfl)) L ⟨rfl, rfl⟩ (by (repeat (first | exact Ent.refl _ | exact Ent.nil | (apply Ent.pick; focus ((repeat (first | exact Rem.here | apply Rem.there)); done)) | apply Ent.drop)))

def i64c (z : Int) : Array Value := #[.int .i64 z]
def u64c (z : Int) : Array Value := #[.int .u64 z]
def getN (v : Int) (l : List Int) : Int := l.foldl (fun v z => bOr .u64 (bShl .u64 v 8) (IntKind.u64.wrap z)) v
def unpackF : List Int → List Int → List Int
  | _, [] => []
  | b, w :: ws => getN 0 (b.take w.toNat) :: unpackF (b.drop w.toNat) ws
theorem unpackF_snoc : ∀ (ws b : List Int) (w : Int), (∀ x ∈ ws, 0 ≤ x) → unpackF b (ws ++ [w]) = unpackF b ws ++ [getN 0 ((b.drop ws.sum.toNat).take w.toNat)]
  | [], b, w, _ => by simp [unpackF]
  | x :: r, b, w, h => by
    have h1 := h x (by simp)
    have h2 := unpackF_snoc r (b.drop x.toNat) w (fun y hy => h y (by simp [hy]))
    have h3 : 0 ≤ r.sum := by
      clear h2 h1
      induction r with
      | nil => simp
      | cons y r ih => have := h y (by simp); have := ih (fun z hz => h z (by simp at hz ⊢; rcases hz with rfl | hz <;> simp [*])); simp; omega
    simp only [List.cons_append, unpackF, h2, List.drop_drop, List.sum_cons]
    rw [show (x + r.sum).toNat = x.toNat + r.sum.toNat by omega]
theorem unpackF_len : ∀ (ws b : List Int), (unpackF b ws).length = ws.length
  | [], _ => rfl
  | _ :: r, _ => by simp [unpackF, unpackF_len r]
theorem i64_get {l : List Int} {g : Nat} (h : g < l.length) : (l.map i64c).getD g #[] = #[Value.int .i64 l[g]] := by simp [h, i64c]
theorem sum_bd : ∀ (ws : List Int), (∀ x ∈ ws, 1 ≤ x ∧ x ≤ 8) → 0 ≤ ws.sum ∧ ws.sum ≤ 8 * ws.length
  | [], _ => by simp
  | x :: r, h => by
    have h1 := h x (by simp)
    have h2 := sum_bd r (fun y hy => h y (by simp [hy]))
    simp only [List.sum_cons, List.length_cons]; omega
theorem sum_take_le (ws : List Int) (h : ∀ x ∈ ws, 1 ≤ x ∧ x ≤ 8) (g : Nat) : (ws.take g).sum ≤ ws.sum := by
  have h1 := congrArg List.sum (List.take_append_drop g ws)
  rw [List.sum_append] at h1
  have h2 := sum_bd (ws.drop g) (fun x hx => h x (List.mem_of_mem_drop hx))
  omega
theorem getN_succ {v : Int} {l : List Int} {j : Nat} (h : j < l.length) : getN v (l.take (j + 1)) = bOr .u64 (bShl .u64 (getN v (l.take j)) 8) (IntKind.u64.wrap l[j]) := by
  unfold getN; rw [List.take_succ_eq_append_getElem h, List.foldl_append]; rfl

set_option maxHeartbeats 1000000 in
theorem pack_Unpack (b ws : List Int) (hok : ∀ x ∈ ws, 1 ≤ x ∧ x ≤ 8) (h1000 : ws.length ≤ 1000) (hroom : ws.sum ≤ b.length) {L : List HP} {p q : Option Addr} {n c m cp : Nat} (hb : SlC L p 1 n c (b.map u8c)) (hw : SlC L q 1 m cp (ws.map i64c)) :
    Tr Tryd.prog 103 [.slice p n c, .slice q m cp].toArray L (fun v L' => ∃ s, v = .tuple #[s, .int .i64 0] ∧ L' = vec 133 1 ((unpackF b ws).map u64c) s :: L) := by
  have hlen : ws.length = m := by simpa using hw.len
  have hlenb : b.length = n := by simpa using hb.len
  refine tr_enter Tryd.func103 rfl Tryd.ntmps103 rfl fun w0 => ?_
  repeat' (first
    | refine swl_op ?_
    | (refine s1_move ?_; refine sc_r (R_move (by rfl)) (by rfl) ?_)
    | (refine s1_assign ?_; refine sc_r (R_assign (by rfl)) (by rfl) ?_)
    | (refine s1_call ?_; refine sc_r (R_len (by rfl)) (by rfl) ?_)
    | refine swl_nil ?_
    | refine sx_next ?_
    | refine sw_seq ?_
    | refine sw_region ?_
    | refine sw_block ?_
    | fail)
  refine sw_loop (γ := Nat) (fun g => m - g) (fun g => [(0, .slice p n c), (1, .slice q m cp), (15, .slice q m cp), (16, .int .i64 m), (17, .int .i64 g), (6, .int .i64 (ws.take g).sum)]) (fun _ => L) (fun g => g ≤ m) 0 (by omega)
    (subE.cons rfl (subE.cons rfl (subE.cons rfl (subE.cons rfl (subE.cons rfl (subE.cons rfl subE.nil)))))) (by (repeat (first | exact Ent.refl _ | exact Ent.nil | (apply Ent.pick; focus ((repeat (first | exact Rem.here | apply Rem.there)); done)) | apply Ent.drop))) ?_
  intro g hg
  have hsz := sum_bd (ws.take g) (fun x hx => hok x (List.mem_of_mem_take hx))
  rw [List.length_take] at hsz
  by_cases hlt : g < m
  · obtain ⟨b1, o1, rfl⟩ := hw.ptr (by omega)
    have hl1 : g < ws.length := by omega
    have he1 := i64_get hl1
    have hts := List.take_succ_eq_append_getElem hl1
    have hx := hok ws[g] (List.getElem_mem hl1)
    generalize ws[g] = x at *
    have hx' : (ws.take (g + 1)).sum = (ws.take g).sum + x := by rw [hts]; simp
    repeat' (first
    | refine swl_op ?_
    | (refine s1_move ?_; refine sc_r (R_move (by rfl)) (by rfl) ?_)
    | (refine s1_load ?_; refine sc_r (L_load_el1 (by rfl) (by infer_instance) (by omega) (by first | assumption | rfl)) (by rfl) ?_)
    | (refine s1_assign ?_; refine sc_r (R_assign (by rfl)) (by rfl) ?_)
    | (refine s1_bin ?_; first | refine sc_r (R_lss (by rfl) (by rfl)) (by rfl) ?_ | refine sc_r (R_add64 (by rfl) (by rfl) (by omega)) (by rfl) ?_)
    | (refine s1_call ?_; (refine sc_c (by rfl) (C_call (by rfl) (by infer_instance) (by rfl) (by rfl) (pack_isWidth' x hx)) (by rfl) ?_; rintro _ _ ⟨rfl, rfl⟩))
    | (refine s1_indexAddr ?_; refine sc_r (R_indexAddr (by rfl) (by rfl) (by omega)) (by rfl) ?_)
    | (refine s1_any ?_; refine sc_r (R_not (by rfl)) (by rfl) ?_)
    | refine swl_nil ?_
    | refine sx_next ?_
    | refine sw_seq ?_
    | refine sw_region ?_
    | refine sw_block ?_
    | refine sx_block_normal ?_
    | refine sw_cond_false (by rfl) ?_
    | refine sw_cond_pos (by rfl) (by first | assumption | omega) ?_
    | refine sw_skip ?_
    | fail)
    refine sx_back (g + 1) (by omega) (by omega) ?_ (by (repeat (first | exact Ent.refl _ | exact Ent.nil | (apply Ent.pick; focus ((repeat (first | exact Rem.here | apply Rem.there)); done)) | apply Ent.drop)))
    rw [hx']
    exact (subE.cons rfl (subE.cons rfl (subE.cons rfl (subE.cons rfl (subE.cons rfl (subE.cons rfl subE.nil))))))
  · rw [List.take_of_length_le (by omega)] at hsz ⊢
    repeat' (first
    | refine swl_op ?_
    | (refine s1_move ?_; refine sc_r (R_move (by rfl)) (by rfl) ?_)
    | (refine s1_assign ?_; refine sc_r (R_assign (by rfl)) (by rfl) ?_)
    | (refine s1_bin ?_; refine sc_r (R_lss (by rfl) (by rfl)) (by rfl) ?_)
    | (refine s1_call ?_; refine sc_r (R_len (by rfl)) (by rfl) ?_)
    | (refine s1_any ?_; (refine sc_w (by rfl) (W_makeSlice (n' := 0) (c' := m) (zc := u64c 0) (by rfl) (by rfl) (by rfl) (by rfl) (by rfl) (by omega) (by omega)) (by rfl) ?_; rintro _ _ ⟨b0, rfl, hok0, rfl⟩))
    | refine swl_nil ?_
    | refine sx_next ?_
    | refine sw_seq ?_
    | refine sw_region ?_
    | refine sw_block ?_
    | refine sx_past_exit ?_
    | refine sx_block_here ?_
    | refine sw_cond_neg (by rfl) (by first | assumption | omega) ?_
    | refine sw_exit ?_
    | refine sw_skip ?_
    | fail)
    refine sw_loop (γ := Nat × Value) (fun g => m - g.1) (fun g => [(0, .slice p n c), (1, .slice q m cp), (9, g.2), (10, .int .i64 (ws.take g.1).sum), (35, .slice q m cp), (36, .int .i64 m), (37, .int .i64 g.1)]) (fun g => vec 133 1 ((unpackF b (ws.take g.1)).map u64c) g.2 :: L) (fun g => g.1 ≤ m) (0, .slice (some ⟨b0, 0, none⟩) 0 m) (by simp)
      (subE.cons rfl (subE.cons rfl (subE.cons rfl (subE.cons rfl (subE.cons rfl (subE.cons rfl (subE.cons rfl subE.nil))))))) (by exact Ent.refl _) ?_
    rintro ⟨g, s⟩ hg
    dsimp only at hg ⊢
    by_cases hlt : g < m
    · obtain ⟨b1, o1, rfl⟩ := hw.ptr (by omega)
      have hl1 : g < ws.length := by omega
      have he1 := i64_get hl1
      have hts := List.take_succ_eq_append_getElem hl1
      have hx := hok ws[g] (List.getElem_mem hl1)
      have hsg := sum_bd (ws.take g) (fun x hx => hok x (List.mem_of_mem_take hx))
      have hle := sum_take_le ws hok (g + 1)
      have hsn := unpackF_snoc (ws.take g) b ws[g] (fun x hx => by have := hok x (List.mem_of_mem_take hx); omega)
      rw [← hts] at hsn
      rw [List.length_take] at hsg
      generalize ws[g] = x at *
      have hx' : (ws.take (g + 1)).sum = (ws.take g).sum + x := by rw [hts]; simp
      have hul : ((unpackF b (ws.take g)).map u64c).length ≤ 1000 := by simp [unpackF_len]; omega
      generalize (ws.take g).sum = at0 at *
      generalize unpackF b (ws.take g) = U at *
      repeat' (first
    | refine swl_op ?_
    | (refine s1_move ?_; refine sc_r (R_move (by rfl)) (by rfl) ?_)
    | (refine s1_load ?_; refine sc_r (L_load_el1 (by rfl) (by infer_instance) (by omega) (by first | assumption | rfl)) (by rfl) ?_)
    | (refine s1_assign ?_; refine sc_r (R_assign (by rfl)) (by rfl) ?_)
    | (refine s1_bin ?_; refine sc_r (R_lss (by rfl) (by rfl)) (by rfl) ?_)
    | (refine s1_indexAddr ?_; refine sc_r (R_indexAddr (by rfl) (by rfl) (by omega)) (by rfl) ?_)
    | refine swl_nil ?_
    | refine sx_next ?_
    | refine sw_seq ?_
    | refine sw_region ?_
    | refine sw_block ?_
    | refine sw_cond_pos (by rfl) (by first | assumption | omega) ?_
    | refine sw_skip ?_
    | fail)
      refine sw_loop (γ := Nat × Int) (fun i => x.toNat - i.1) (fun i => [(0, .slice p n c), (1, .slice (some ⟨b1, o1, none⟩) m cp), (9, s), (10, .int .i64 at0), (35, .slice (some ⟨b1, o1, none⟩) m cp), (36, .int .i64 m), (37, .int .i64 g), (12, .int .i64 x), (13, .int .u64 i.2), (41, .int .i64 x), (42, .int .i64 i.1)]) (fun _ => vec 133 1 (U.map u64c) s :: L) (fun i => i.1 ≤ x.toNat ∧ i.2 = getN 0 (((b.drop at0.toNat).take x.toNat).take i.1)) (0, 0) ⟨by simp, by simp [getN]⟩
        (subE.cons rfl (subE.cons rfl (subE.cons rfl (subE.cons rfl (subE.cons rfl (subE.cons rfl (subE.cons rfl (subE.cons rfl (subE.cons rfl (subE.cons rfl (subE.cons rfl subE.nil))))))))))) (by (repeat (first | exact Ent.refl _ | exact Ent.nil | (apply Ent.pick; focus ((repeat (first | exact Rem.here | apply Rem.there)); done)) | apply Ent.drop))) ?_
      rintro ⟨i, w⟩ ⟨hi, hwi⟩
      dsimp only at hi hwi ⊢
      by_cases hlt2 : i < x.toNat
      · obtain ⟨b2, o2, rfl⟩ := hb.ptr (by omega)
        have hl2 : at0.toNat + i < b.length := by omega
        have he2 : (b.map u8c).getD ((at0 + (i : Int)).toNat) #[] = #[Value.int .u8 b[at0.toNat + i]] := by
          rw [show (at0 + (i : Int)).toNat = at0.toNat + i by omega]; exact u8_get hl2
        have hgs := getN_succ (v := 0) (l := (b.drop at0.toNat).take x.toNat) (j := i) (by simp; omega)
        rw [List.getElem_take, List.getElem_drop] at hgs
        generalize b[at0.toNat + i] = z at *
        repeat' (first
    | refine swl_op ?_
    | (refine s1_move ?_; refine sc_r (R_move (by rfl)) (by rfl) ?_)
    | (refine s1_load ?_; refine sc_r (L_load_el1 (by rfl) (by infer_instance) (by omega) (by first | assumption | rfl)) (by rfl) ?_)
    | (refine s1_assign ?_; refine sc_r (R_assign (by rfl)) (by rfl) ?_)
    | (refine s1_bin ?_; first | refine sc_r (R_lss (by rfl) (by rfl)) (by rfl) ?_ | refine sc_r (R_add64 (by rfl) (by rfl) (by omega)) (by rfl) ?_ | refine sc_r (R_shl (by rfl) (by rfl) (by omega)) (by rfl) ?_ | refine sc_r (R_or (by rfl) (by rfl)) (by rfl) ?_)
    | (refine s1_indexAddr ?_; refine sc_r (R_indexAddr (by rfl) (by rfl) (by omega)) (by rfl) ?_)
    | (refine s1_conv ?_; refine sc_r (R_conv (by rfl)) (by rfl) ?_)
    | refine swl_nil ?_
    | refine sx_next ?_
    | refine sw_seq ?_
    | refine sw_region ?_
    | refine sw_block ?_
    | refine sx_block_normal ?_
    | refine sw_cond_pos (by rfl) (by first | assumption | omega) ?_
    | refine sw_skip ?_
    | fail)
        refine sx_back (i + 1, _) (by simp only; omega) ⟨by simp only; omega, ?_⟩ (subE.cons rfl (subE.cons rfl (subE.cons rfl (subE.cons rfl (subE.cons rfl (subE.cons rfl (subE.cons rfl (subE.cons rfl (subE.cons rfl (subE.cons rfl (subE.cons rfl subE.nil))))))))))) (by (repeat (first | exact Ent.refl _ | exact Ent.nil | (apply Ent.pick; focus ((repeat (first | exact Rem.here | apply Rem.there)); done)) | apply Ent.drop)))
        rw [hgs, ← hwi]; rfl
      · rw [List.take_of_length_le (i := i) (by simp; omega)] at hwi
        repeat' (first
    | refine swl_op ?_
    | (refine s1_move ?_; refine sc_r (R_move (by rfl)) (by rfl) ?_)
    | (refine s1_assign ?_; refine sc_r (R_assign (by rfl)) (by rfl) ?_)
    | (refine s1_bin ?_; first | refine sc_r (R_lss (by rfl) (by rfl)) (by rfl) ?_ | refine sc_r (R_add64 (by rfl) (by rfl) (by omega)) (by rfl) ?_)
    | (refine s1_call ?_; (refine sc_w (by rfl) (W_append1 (by rfl) (by rfl) (by focus ((repeat (first | exact Rem.here | apply Rem.there)); done)) (by infer_instance) (by rfl) (by rfl) (by first | assumption | omega)) (by rfl) ?_; rintro _ _ rfl))
    | (refine s1_any ?_; (refine sc_w (by rfl) (W_buildSlice1s (by rfl) (by rfl)) (by rfl) ?_; rintro _ _ ⟨_, rfl, rfl⟩))
    | refine swl_nil ?_
    | refine sx_next ?_
    | refine sw_seq ?_
    | refine sw_region ?_
    | refine sx_past_exit ?_
    | refine sx_block_normal ?_
    | refine sx_block_here ?_
    | refine sw_cond_neg (by rfl) (by first | assumption | omega) ?_
    | refine sw_exit ?_
    | fail)
        rename_i vv
        refine sx_back (g + 1, vv) (by simp only; omega) (by simp only; omega) ?_ ?_
        · rw [hx']; exact (subE.cons rfl (subE.cons rfl (subE.cons rfl (subE.cons rfl (subE.cons rfl (subE.cons rfl (subE.cons rfl subE.nil)))))))
        · dsimp only
          rw [hsn, List.map_append, ← hwi]
          (repeat (first | exact Ent.refl _ | exact Ent.nil | (apply Ent.pick; focus ((repeat (first | exact Rem.here | apply Rem.there)); done)) | apply Ent.drop))
    · rw [List.take_of_length_le (by omega)]
      repeat' (first
    | refine swl_op ?_
    | (refine s1_move ?_; refine sc_r (R_move (by rfl)) (by rfl) ?_)
    | (refine s1_assign ?_; refine sc_r (R_assign (by rfl)) (by rfl) ?_)
    | (refine s1_bin ?_; refine sc_r (R_lss (by rfl) (by rfl)) (by rfl) ?_)
    | refine swl_nil ?_
    | refine sx_next ?_
    | refine sw_seq ?_
    | refine sw_region ?_
    | refine sx_past_exit ?_
    | refine sx_block_here ?_
    | refine sw_cond_neg (by rfl) (by first | assumption | omega) ?_
    | refine sw_ret ?_
    | refine sw_exit ?_
    | fail)
      exact sx_ret_of (res2 rfl (ResOne.tmp rfl) (ResOne.tmp rfl)) _ ⟨_, rfl, rfl⟩ (by (repeat (first | exact Ent.refl _ | exact Ent.nil | (apply Ent.pick; focus ((repeat (first | exact Rem.here | apply Rem.there)); done)) | apply Ent.drop)))
end Go.Proofs.YtcpfehldofmipaaDoor
