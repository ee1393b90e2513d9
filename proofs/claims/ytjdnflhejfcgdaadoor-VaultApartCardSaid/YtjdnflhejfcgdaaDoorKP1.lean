import Derived.Test.YtjdnflhejfcgdaaDoorK5
import Derived.Test.YtjdnflhejfcgdaaDoorCards
import Derived.Test.YtjdnflhejfcgdaaDoorTie

/-
  The statement: what is put in one segment changes no other one.
-/
namespace Go.Proofs.YtjdnflhejfcgdaaDoor
open Go Go.SL Go.Proofs

theorem blk_l {xs ys : List BS} (h : xs.map BS.l = ys.map BS.l) {i : Nat} (h1 : i < xs.length) (h2 : i < ys.length) : xs[i].l = ys[i].l := by
  have := congrArg (·[i]?) h
  simpa [h1, h2] using this

set_option maxHeartbeats 8000000 in
theorem law_VaultApart (us ws : List Int) (s t : Int) (ha : ∀ z ∈ us, 0 ≤ z ∧ z ≤ 255) (hb : ∀ z ∈ ws, 0 ≤ z ∧ z ≤ 255) (hs : 0 ≤ s ∧ s ≤ 255) (ht : 0 ≤ t ∧ t ≤ 255) {pa pb : Option Addr} {na ca nb cb : Nat} {L : List HP} [HalvesC L]
    (hla : SlC L pa 1 na ca (us.map u8c)) (hlb : SlC L pb 1 nb cb (ws.map u8c)) :
    Tr Tryd.prog 3 [.agg #[.slice pa na ca, .slice pb nb cb, .int .u8 s, .int .u8 t]].toArray L (fun v L' => v = .bool true ∧ L = L') := by
  have hna : us.length = na := by simpa using hla.len
  have hnb : ws.length = nb := by simpa using hlb.len
  have cK := fun (L : List HP) (h : HalvesC L) => law22_awake (L := L)
  refine tr_enter Tryd.func3 rfl Tryd.ntmps3 rfl fun w0 => ?_
  by_cases hgo : na = 0 ∨ nb = 0 ∨ s % 6 = t % 6
  · by_cases h1 : na = 0
    · repeat' (first
    | refine swl_op ?_
    | (refine s1_move ?_; refine sc_r (R_move (by rfl)) (by rfl) ?_)
    | (refine s1_load ?_; refine sc_r (L_load' (by rfl) (by infer_instance) (by rfl)) (by rfl) ?_)
    | (refine s1_fieldAddr ?_; refine sc_r (R_fieldAddr (by rfl)) (by rfl) ?_)
    | (refine s1_assign ?_; refine sc_r (R_assign (by rfl)) (by rfl) ?_)
    | (refine s1_pick ?_; refine sc_r (R_pick_t (by rfl) (by rfl)) (by rfl) ?_)
    | (refine s1_bin ?_; first | refine sc_r (R_eql (by rfl) (by rfl)) (by rfl) ?_ | refine sc_r (R_eql_nil (by rfl) (by rfl)) (by rfl) ?_)
    | (refine s1_call ?_; first | (refine sc_c (by rfl) (C_call (by rfl) (by infer_instance) (by rfl) (by rfl) (vp_made)) (by rfl) ?_; rintro _ _ ⟨m, d, a, b, p, r, q, rfl, rfl⟩) | (refine sc_c (by rfl) (C_call (by rfl) (by infer_instance) (by rfl) (by rfl) (cK _ (by infer_instance))) (by rfl) ?_; rintro _ _ ⟨rfl, rfl⟩) | refine sc_r (R_len (by rfl)) (by rfl) ?_)
    | (refine s1_box ?_; (refine sc_w (by rfl) (W_boxA (by rfl)) (by rfl) ?_; rintro _ _ ⟨_, rfl, rfl⟩))
    | (refine s1_any ?_; refine sc_r (R_extract (by rfl) (by rfl)) (by rfl) ?_)
    | refine swl_nil ?_
    | refine sx_next ?_
    | refine sw_seq ?_
    | refine sw_region ?_
    | refine swl_g_off (by rfl) (by rfl) (by rfl) (by rfl) ?_
    | refine swl_g_pos (by rfl) (by rfl) (by first | assumption | omega) ?_
    | refine sx_past_ret ?_
    | refine sw_cond_true (by rfl) ?_
    | refine sw_cond_false (by rfl) ?_
    | refine sw_ret ?_
    | refine sw_skip ?_
    | refine swh_lt (by rfl) (fun _ _ => wanted_none) ?_
    | refine swh_nil ?_
    | (refine sw_draw [(0, true), (1, true), (2, true), (3, true), (4, true), (5, true), (6, true), (7, true), (8, true), (9, true), (10, true), (11, true)] follows ?_ ?_ ?_; (focus rfl); (focus (decide +kernel)))
    | fail)
      exact sx_ret_of (res1 rfl (ResOne.tmp rfl)) _ ⟨rfl, rfl⟩ (by (repeat (first | exact Ent.refl _ | exact Ent.nil | (apply Ent.pick; focus ((repeat (first | exact Rem.here | apply Rem.there)); done)) | apply Ent.drop)))
    · by_cases h2 : nb = 0
      · repeat' (first
    | refine swl_op ?_
    | (refine s1_move ?_; refine sc_r (R_move (by rfl)) (by rfl) ?_)
    | (refine s1_load ?_; refine sc_r (L_load' (by rfl) (by infer_instance) (by rfl)) (by rfl) ?_)
    | (refine s1_fieldAddr ?_; refine sc_r (R_fieldAddr (by rfl)) (by rfl) ?_)
    | (refine s1_assign ?_; refine sc_r (R_assign (by rfl)) (by rfl) ?_)
    | (refine s1_pick ?_; first | refine sc_r (R_pick_t (by rfl) (by rfl)) (by rfl) ?_ | refine sc_r (R_pick_f (by rfl) (by rfl)) (by rfl) ?_)
    | (refine s1_bin ?_; first | refine sc_r (R_eql (by rfl) (by rfl)) (by rfl) ?_ | refine sc_r (R_eql_nil (by rfl) (by rfl)) (by rfl) ?_)
    | (refine s1_call ?_; first | (refine sc_c (by rfl) (C_call (by rfl) (by infer_instance) (by rfl) (by rfl) (vp_made)) (by rfl) ?_; rintro _ _ ⟨m, d, a, b, p, r, q, rfl, rfl⟩) | (refine sc_c (by rfl) (C_call (by rfl) (by infer_instance) (by rfl) (by rfl) (cK _ (by infer_instance))) (by rfl) ?_; rintro _ _ ⟨rfl, rfl⟩) | refine sc_r (R_len (by rfl)) (by rfl) ?_)
    | (refine s1_box ?_; (refine sc_w (by rfl) (W_boxA (by rfl)) (by rfl) ?_; rintro _ _ ⟨_, rfl, rfl⟩))
    | (refine s1_any ?_; refine sc_r (R_extract (by rfl) (by rfl)) (by rfl) ?_)
    | refine swl_nil ?_
    | refine sx_next ?_
    | refine sw_seq ?_
    | refine sw_region ?_
    | refine swl_g_on (by rfl) (by rfl) ?_
    | refine swl_g_off (by rfl) (by rfl) (by rfl) (by rfl) ?_
    | refine swl_g_pos (by rfl) (by rfl) (by first | assumption | omega) ?_
    | refine swl_g_neg (by rfl) (by rfl) (by first | assumption | omega) ?_
    | refine sx_past_ret ?_
    | refine sw_cond_true (by rfl) ?_
    | refine sw_cond_false (by rfl) ?_
    | refine sw_ret ?_
    | refine sw_skip ?_
    | refine swh_lt (by rfl) (fun _ _ => wanted_none) ?_
    | refine swh_nil ?_
    | (refine sw_draw [(0, true), (1, true), (2, true), (3, true), (4, true), (5, true), (6, true), (7, true), (8, true), (9, true), (10, true), (11, true)] follows ?_ ?_ ?_; (focus rfl); (focus (decide +kernel)))
    | fail)
        exact sx_ret_of (res1 rfl (ResOne.tmp rfl)) _ ⟨rfl, rfl⟩ (by (repeat (first | exact Ent.refl _ | exact Ent.nil | (apply Ent.pick; focus ((repeat (first | exact Rem.here | apply Rem.there)); done)) | apply Ent.drop)))
      · have h3 : s % 6 = t % 6 := by omega
        repeat' (first
    | refine swl_op ?_
    | (refine s1_move ?_; refine sc_r (R_move (by rfl)) (by rfl) ?_)
    | (refine s1_load ?_; refine sc_r (L_load' (by rfl) (by infer_instance) (by rfl)) (by rfl) ?_)
    | (refine s1_fieldAddr ?_; refine sc_r (R_fieldAddr (by rfl)) (by rfl) ?_)
    | (refine s1_assign ?_; refine sc_r (R_assign (by rfl)) (by rfl) ?_)
    | (refine s1_pick ?_; refine sc_r (R_pick_f (by rfl) (by rfl)) (by rfl) ?_)
    | (refine s1_bin ?_; first | refine sc_r (R_eql (by rfl) (by rfl)) (by rfl) ?_ | refine sc_r (R_eql_nil (by rfl) (by rfl)) (by rfl) ?_ | refine sc_r (R_rem (by rfl) (by rfl) (by omega)) (by rfl) ?_)
    | (refine s1_call ?_; first | (refine sc_c (by rfl) (C_call (by rfl) (by infer_instance) (by rfl) (by rfl) (vp_made)) (by rfl) ?_; rintro _ _ ⟨m, d, a, b, p, r, q, rfl, rfl⟩) | (refine sc_c (by rfl) (C_call (by rfl) (by infer_instance) (by rfl) (by rfl) (cK _ (by infer_instance))) (by rfl) ?_; rintro _ _ ⟨rfl, rfl⟩) | refine sc_r (R_len (by rfl)) (by rfl) ?_)
    | (refine s1_box ?_; (refine sc_w (by rfl) (W_boxA (by rfl)) (by rfl) ?_; rintro _ _ ⟨_, rfl, rfl⟩))
    | (refine s1_any ?_; refine sc_r (R_extract (by rfl) (by rfl)) (by rfl) ?_)
    | refine swl_nil ?_
    | refine sx_next ?_
    | refine sw_seq ?_
    | refine sw_region ?_
    | refine swl_g_on (by rfl) (by rfl) ?_
    | refine swl_g_neg (by rfl) (by rfl) (by first | assumption | omega) ?_
    | refine sx_past_ret ?_
    | refine sw_cond_false (by rfl) ?_
    | refine sw_cond_pos (by rfl) (by first | assumption | omega) ?_
    | refine sw_ret ?_
    | refine sw_skip ?_
    | refine swh_lt (by rfl) (fun _ _ => wanted_none) ?_
    | refine swh_nil ?_
    | (refine sw_draw [(0, true), (1, true), (2, true), (3, true), (4, true), (5, true), (6, true), (7, true), (8, true), (9, true), (10, true), (11, true)] follows ?_ ?_ ?_; (focus rfl); (focus (decide +kernel)))
    | fail)
        exact sx_ret_of (res1 rfl (ResOne.tmp rfl)) _ ⟨rfl, rfl⟩ (by (repeat (first | exact Ent.refl _ | exact Ent.nil | (apply Ent.pick; focus ((repeat (first | exact Rem.here | apply Rem.there)); done)) | apply Ent.drop)))
  · have h1 : na ≠ 0 := fun h => hgo (.inl h)
    have h2 : nb ≠ 0 := fun h => hgo (.inr (.inl h))
    have h3 : s % 6 ≠ t % 6 := fun h => hgo (.inr (.inr h))
    clear hgo
    obtain ⟨hw1, _⟩ := part22_may (seq := 1) (l := us) (by omega) (by omega) ha
    obtain ⟨hw2, _⟩ := part22_may (seq := 2) (l := ws) (by omega) (by omega) hb
    have hp1 := fun (L : List HP) (hl : SlC L pa 1 na ca (us.map u8c)) => law22_part 1 us ha (L := L) hl
    have hp2 := fun (L : List HP) (hl : SlC L pb 1 nb cb (ws.map u8c)) => law22_part 2 ws hb (L := L) hl
    simp only [PartS.cells] at hp1 hp2
    have hl1 : (blks22 (us.take 13)).length ≤ 13 := by simp [blks22]; omega
    have hl2 : (blks22 (ws.take 13)).length ≤ 13 := by simp [blks22]; omega
    generalize part22 1 us = P at *
    generalize part22 2 ws = Q at *
    generalize blks22 (us.take 13) = bl1 at *
    generalize blks22 (ws.take 13) = bl2 at *
    repeat' (first
    | refine swl_op ?_
    | (refine s1_move ?_; refine sc_r (R_move (by rfl)) (by rfl) ?_)
    | (refine s1_load ?_; first | refine sc_r (L_load' (by rfl) (by infer_instance) (by rfl)) (by rfl) ?_ | refine sc_r (L_load_all (by rfl) (by infer_instance) (by rfl)) (by rfl) ?_)
    | (refine s1_fieldAddr ?_; refine sc_r (R_fieldAddr (by rfl)) (by rfl) ?_)
    | (refine s1_assign ?_; refine sc_r (R_assign (by rfl)) (by rfl) ?_)
    | (refine s1_pick ?_; refine sc_r (R_pick_f (by rfl) (by rfl)) (by rfl) ?_)
    | (refine s1_bin ?_; first | refine sc_r (R_add64 (by rfl) (by rfl) (by omega)) (by rfl) ?_ | refine sc_r (R_eql (by rfl) (by rfl)) (by rfl) ?_ | refine sc_r (R_eql_nil (by rfl) (by rfl)) (by rfl) ?_ | refine sc_r (R_rem (by rfl) (by rfl) (by omega)) (by rfl) ?_)
    | (refine s1_call ?_; first | (refine sc_c (by rfl) (C_call (by rfl) (by infer_instance) (by rfl) (by rfl) (vp_made)) (by rfl) ?_; rintro _ _ ⟨m, d, a, b, p, r, q, rfl, rfl⟩) | (refine sc_c (by rfl) (C_call (by rfl) (by infer_instance) (by rfl) (by rfl) (hp1 _ (by infer_instance))) (by rfl) ?_; rintro _ _ ⟨sP, sB, sS, xs, rfl, hok1, hbs1, rfl⟩; refine swl_know (fun h H => vec_fact H) ?_; rintro ⟨pP, cP, rfl, hvP⟩; refine swl_know (fun h H => vec_fact (Ent.own (show Ent _ [vec 22 1 (xs.map BS.cell) sB] from by (repeat (first | exact Ent.refl _ | exact Ent.nil | (apply Ent.pick; focus ((repeat (first | exact Rem.here | apply Rem.there)); done)) | apply Ent.drop))) H)) ?_; rintro ⟨pB, cB, rfl, hvB⟩) | (refine sc_c (by rfl) (C_call (by rfl) (by infer_instance) (by rfl) (by rfl) (hp2 _ (by infer_instance))) (by rfl) ?_; rintro _ _ ⟨sP2, sB2, sS2, ys, rfl, hok2, hbs2, rfl⟩; refine swl_know (fun h H => vec_fact H) ?_; rintro ⟨pQ, cQ, rfl, hvQ⟩; refine swl_know (fun h H => vec_fact (Ent.own (show Ent _ [vec 22 1 (ys.map BS.cell) sB2] from by (repeat (first | exact Ent.refl _ | exact Ent.nil | (apply Ent.pick; focus ((repeat (first | exact Rem.here | apply Rem.there)); done)) | apply Ent.drop))) H)) ?_; rintro ⟨pC, cC, rfl, hvC⟩) | refine sc_r (R_len (by rfl)) (by rfl) ?_)
    | (refine s1_store ?_; (refine sc_w (by rfl) (W_storeAll (by rfl) (by rfl) (by infer_instance) (by rfl) (by rfl) (by rfl)) (by rfl) ?_; rintro _ _ ⟨rfl, rfl⟩))
    | (refine s1_alloc ?_; (refine sc_w (by rfl) W_allocA (by rfl) ?_; rintro _ _ ⟨_, rfl, rfl⟩))
    | (refine s1_box ?_; (refine sc_w (by rfl) (W_boxA (by rfl)) (by rfl) ?_; rintro _ _ ⟨_, rfl, rfl⟩))
    | (refine s1_conv ?_; refine sc_r (R_conv64 (by rfl) (by omega)) (by rfl) ?_)
    | (refine s1_any ?_; refine sc_r (R_extract (by rfl) (by rfl)) (by rfl) ?_)
    | refine swl_nil ?_
    | refine sx_next ?_
    | refine sw_seq ?_
    | refine sw_region ?_
    | refine swl_g_on (by rfl) (by rfl) ?_
    | refine swl_g_neg (by rfl) (by rfl) (by first | assumption | omega) ?_
    | refine sw_cond_false (by rfl) ?_
    | refine sw_cond_neg (by rfl) (by first | assumption | omega) ?_
    | refine sw_skip ?_
    | refine swh_lt (by rfl) (fun _ _ => wanted_none) ?_
    | refine swh_nil ?_
    | (refine sw_draw [(0, true), (1, true), (2, true), (3, true), (4, true), (5, true), (6, true), (7, true), (8, true), (9, true), (10, true), (11, true)] follows ?_ ?_ ?_; (focus rfl); (focus (decide +kernel)))
    | fail)
    have hS : 0 ≤ s % 6 ∧ s % 6 < 6 := by omega
    have hT : 0 ≤ t % 6 ∧ t % 6 < 6 := by omega
    have hput1 := fun (F : List HP) (hg : HalvesC F) (hl : SlC F pP 4 (P.l.map EntS.cells).length cP (P.l.map EntS.cells)) (hb : SlC F pB 1 (xs.map BS.cell).length cB (xs.map BS.cell)) (hx : ∀ y ∈ xs, SlC F y.p 1 y.n y.c (y.l.map u8c)) =>
      vp_Put m d a b (fun _ => zeros128) (seg := 8 + s % 6) (by omega) P xs (by rw [hbs1]; exact hw1) (F := F) hl hb hx
    have hput2 := fun (val : Int → List Int) (F : List HP) (hg : HalvesC F) (hl : SlC F pQ 4 (Q.l.map EntS.cells).length cQ (Q.l.map EntS.cells)) (hb : SlC F pC 1 (ys.map BS.cell).length cC (ys.map BS.cell)) (hx : ∀ y ∈ ys, SlC F y.p 1 y.n y.c (y.l.map u8c)) =>
      vp_Put m d a b val (seg := 8 + t % 6) (by omega) Q ys (by rw [hbs2]; exact hw2) (F := F) hl hb hx
    rw [hbs1] at hput1
    rw [hbs2] at hput2
    have hsv1 : SegV (putV (putV (fun _ => zeros128) (8 + s % 6) P bl1) (8 + t % 6) Q bl2) (8 + s % 6) P bl1 := (putV_seg _ _ _ _).other (by omega) (by omega) (by omega)
    have hsv2 : SegV (putV (putV (fun _ => zeros128) (8 + s % 6) P bl1) (8 + t % 6) Q bl2) (8 + t % 6) Q bl2 := putV_seg _ _ _ _
    have hno : ∀ i : Nat, i < 6 → (i : Int) ≠ s % 6 → (i : Int) ≠ t % 6 → putV (putV (fun _ => zeros128) (8 + s % 6) P bl1) (8 + t % 6) Q bl2 (16 * (8 + (i : Int)) + 1) = zeros128 := fun i _ e1 e2 => by
      rw [putV_other _ (by omega) (by omega), putV_other _ (by omega) (by omega)]
    have hput2' := hput2 (putV (fun _ => zeros128) (8 + s % 6) P bl1)
    generalize putV (putV (fun _ => zeros128) (8 + s % 6) P bl1) (8 + t % 6) Q bl2 = val2 at *
    generalize putV (fun _ => zeros128) (8 + s % 6) P bl1 = val1 at *
    clear hput2
    have hget1 := fun (F : List HP) (hg : HalvesC F) => vp_Get m d a b val2 (seg := 8 + s % 6) (by omega) hw1 hsv1 (F := F)
    have hsame := fun (L : List HP) (pa pb : Option Addr) (n ca m cb : Nat) (ha : SlC L pa 4 n ca (P.l.map EntS.cells)) (hb : SlC L pb 4 m cb (P.l.map EntS.cells)) => ref6_Same P P ha hb
    rw [decide_eq_true rfl] at hsame
    simp only [PartS.cells] at hput1 hput2' hget1 hsame
    repeat' (first
    | refine swl_op ?_
    | (refine s1_move ?_; refine sc_r (R_move (by rfl)) (by rfl) ?_)
    | (refine s1_load ?_; refine sc_r (L_load_all (by rfl) (by infer_instance) (by rfl)) (by rfl) ?_)
    | (refine s1_assign ?_; refine sc_r (R_assign (by rfl)) (by rfl) ?_)
    | (refine s1_pick ?_; refine sc_r (R_pick_f (by rfl) (by rfl)) (by rfl) ?_)
    | (refine s1_bin ?_; first | refine sc_r (R_add64 (by rfl) (by rfl) (by omega)) (by rfl) ?_ | refine sc_r (R_neq (by rfl) (by rfl)) (by rfl) ?_ | refine sc_r (R_rem (by rfl) (by rfl) (by omega)) (by rfl) ?_)
    | (refine s1_call ?_; first | (refine sc_c (by rfl) (C_call (by rfl) (by infer_instance) (by rfl) (by rfl) (Tr.ent (Ent.pick (by focus ((repeat (first | exact Rem.here | apply Rem.there)); done)) (Ent.refl _)) (hput1 _ (by infer_instance) (by infer_instance) (by infer_instance) (blks_read (e := 5) (by infer_instance) hok1)))) (by rfl) ?_; rintro _ _ ⟨rfl, rfl⟩) | (refine sc_c (by rfl) (C_call (by rfl) (by infer_instance) (by rfl) (by rfl) (Tr.ent (Ent.pick (by focus ((repeat (first | exact Rem.here | apply Rem.there)); done)) (Ent.refl _)) (hput2' _ (by infer_instance) (by infer_instance) (by infer_instance) (blks_read (e := 5) (by infer_instance) hok2)))) (by rfl) ?_; rintro _ _ ⟨rfl, rfl⟩) | (refine sc_c (by rfl) (C_call (by rfl) (by infer_instance) (by rfl) (by rfl) (Tr.ent (Ent.pick (by focus ((repeat (first | exact Rem.here | apply Rem.there)); done)) (Ent.refl _)) (hget1 _ (by infer_instance)))) (by rfl) ?_; rintro _ _ ⟨sv, bv, zs, rfl, hok3, hbs3, rfl⟩; have hlz : (zs.map BS.cell).length = (xs.map BS.cell).length := (by simpa using congrArg List.length (hbs3.trans hbs1.symm)); refine swl_know (fun h H => vec_fact H) ?_; rintro ⟨pR, cR, rfl, hvR⟩; refine swl_know (fun h H => vec_fact (Ent.own (show Ent _ [vec 22 1 (zs.map BS.cell) bv] from by (repeat (first | exact Ent.refl _ | exact Ent.nil | (apply Ent.pick; focus ((repeat (first | exact Rem.here | apply Rem.there)); done)) | apply Ent.drop))) H)) ?_; rintro ⟨pD, cD, rfl, hvD⟩) | (refine sc_c (by rfl) (C_call (by rfl) (by infer_instance) (by rfl) (by rfl) (hsame _ _ _ _ _ _ _ (by infer_instance) (by infer_instance))) (by rfl) ?_; rintro _ _ ⟨rfl, rfl⟩) | refine sc_r (R_len (by rfl)) (by rfl) ?_)
    | (refine s1_store ?_; (refine sc_w (by rfl) (W_storeAll (by rfl) (by rfl) (by infer_instance) (by rfl) (by rfl) (by rfl)) (by rfl) ?_; rintro _ _ ⟨rfl, rfl⟩))
    | (refine s1_alloc ?_; (refine sc_w (by rfl) W_allocA (by rfl) ?_; rintro _ _ ⟨_, rfl, rfl⟩))
    | (refine s1_conv ?_; refine sc_r (R_conv64 (by rfl) (by omega)) (by rfl) ?_)
    | (refine s1_any ?_; first | refine sc_r (R_not (by rfl)) (by rfl) ?_ | refine sc_r (R_extract (by rfl) (by rfl)) (by rfl) ?_)
    | refine swl_nil ?_
    | refine sx_next ?_
    | refine sw_seq ?_
    | refine sw_region ?_
    | refine sw_block ?_
    | refine swl_g_on (by rfl) (by rfl) ?_
    | refine sw_cond_false (by rfl) ?_
    | refine sw_cond_npos (by rfl) (by first | assumption | omega) ?_
    | refine sw_skip ?_
    | fail)
    have hnx : (xs.map BS.cell).length = xs.length := List.length_map _
    have hnz : (zs.map BS.cell).length = zs.length := List.length_map _
    have hx13 : xs.length ≤ 13 := by have := congrArg List.length hbs1; simp at this; omega
    refine sw_loop (γ := Nat) (fun i => zs.length - i) (fun i => [(5, .int .u8 s), (6, .int .u8 t), (7, .pointer (some ⟨m, 0, none⟩)), (12, .slice pB (xs.map BS.cell).length cB), (18, .slice pD (zs.map BS.cell).length cD), (20, .int .i64 i)])
      (fun _ => vec 22 1 (zs.map BS.cell) (.slice pD (zs.map BS.cell).length cD) :: blksP 147 zs :: vec 22 1 (xs.map BS.cell) (.slice pB (xs.map BS.cell).length cB) :: blksP 5 xs :: vp m d a b val2 :: L) (fun i => i ≤ zs.length) 0 (by omega)
      (subE.cons rfl (subE.cons rfl (subE.cons rfl (subE.cons rfl (subE.cons rfl (subE.cons rfl subE.nil)))))) (by (repeat (first | exact Ent.refl _ | exact Ent.nil | (apply Ent.pick; focus ((repeat (first | exact Rem.here | apply Rem.there)); done)) | apply Ent.drop))) ?_
    intro i hi
    by_cases hlt : i < zs.length
    · have hltx : i < xs.length := by omega
      obtain ⟨b1, o1, rfl⟩ := hvB.ptr (by omega)
      obtain ⟨b2, o2, rfl⟩ := hvD.ptr (by omega)
      have he1 := bs_get hltx
      have he2 := bs_get hlt
      have hbe := blk_l (hbs3.trans hbs1.symm) hlt hltx
      have hcz := fun (L L' : List HP) (h : RemC (blksP 147 zs) L L') => blks_read h hok3 zs[i] (List.getElem_mem hlt)
      have hcx := fun (L L' : List HP) (h : RemC (blksP 5 xs) L L') => blks_read h hok1 xs[i] (List.getElem_mem hltx)
      generalize zs[i] = zi at *
      generalize xs[i] = xi at *
      repeat' (first
    | (refine s1_bin ?_; refine sc_r (R_neq_str1 (by rfl) (by rfl) (by rw [hbe])) (by rfl) ?_)
    | refine swl_op ?_
    | (refine s1_move ?_; refine sc_r (R_move (by rfl)) (by rfl) ?_)
    | (refine s1_load ?_; refine sc_r (L_load_el1 (by rfl) (by infer_instance) (by omega) (by first | assumption | rfl)) (by rfl) ?_)
    | (refine s1_assign ?_; refine sc_r (R_assign (by rfl)) (by rfl) ?_)
    | (refine s1_bin ?_; first | refine sc_r (R_lss (by rfl) (by rfl)) (by rfl) ?_ | refine sc_r (R_add64 (by rfl) (by rfl) (by omega)) (by rfl) ?_)
    | (refine s1_call ?_; refine sc_r (R_len (by rfl)) (by rfl) ?_)
    | (refine s1_indexAddr ?_; refine sc_r (R_indexAddr (by rfl) (by rfl) (by omega)) (by rfl) ?_)
    | (refine s1_conv ?_; first | refine sc_r (R_bytes_string (l := zi.l) (by rfl) (hcz _ _ (by infer_instance))) (by rfl) ?_ | refine sc_r (R_bytes_string (l := xi.l) (by rfl) (hcx _ _ (by infer_instance))) (by rfl) ?_)
    | refine swl_nil ?_
    | refine sx_next ?_
    | refine sw_seq ?_
    | refine sw_region ?_
    | refine sw_block ?_
    | refine sx_block_normal ?_
    | refine sw_cond_false (by rfl) ?_
    | refine sw_cond_pos (by rfl) (by first | assumption | omega) ?_
    | refine sw_skip ?_
    | refine swh_lt (by rfl) (fun _ _ => wanted_none) ?_
    | refine swh_nil ?_
    | (refine sw_draw [(0, true), (1, true), (2, true), (3, true), (4, true), (5, true), (6, true), (7, true), (8, true), (9, true), (10, true)] follows ?_ ?_ ?_; (focus rfl); (focus (decide +kernel)))
    | fail)
      exact sx_back (i + 1) (by omega) (by omega) (subE.cons rfl (subE.cons rfl (subE.cons rfl (subE.cons rfl (subE.cons rfl (subE.cons rfl subE.nil)))))) (by (repeat (first | exact Ent.refl _ | exact Ent.nil | (apply Ent.pick; focus ((repeat (first | exact Rem.here | apply Rem.there)); done)) | apply Ent.drop)))
    · repeat' (first
    | refine swl_op ?_
    | (refine s1_move ?_; refine sc_r (R_move (by rfl)) (by rfl) ?_)
    | (refine s1_assign ?_; refine sc_r (R_assign (by rfl)) (by rfl) ?_)
    | (refine s1_bin ?_; refine sc_r (R_lss (by rfl) (by rfl)) (by rfl) ?_)
    | (refine s1_call ?_; refine sc_r (R_len (by rfl)) (by rfl) ?_)
    | refine swl_nil ?_
    | refine sx_next ?_
    | refine sw_seq ?_
    | refine sw_region ?_
    | refine sw_block ?_
    | refine sx_past_exit ?_
    | refine sx_block_here ?_
    | refine sw_cond_neg (by rfl) (by first | assumption | omega) ?_
    | refine sw_exit ?_
    | fail)
      refine sw_loop (γ := Nat) (fun i => 6 - i) (fun i => [(5, .int .u8 s), (6, .int .u8 t), (7, .pointer (some ⟨m, 0, none⟩)), (21, .int .i64 i)])
        (fun _ => vp m d a b val2 :: L) (fun i => i ≤ 6) 0 (by omega) (subE.cons rfl (subE.cons rfl (subE.cons rfl (subE.cons rfl subE.nil)))) (by (repeat (first | exact Ent.refl _ | exact Ent.nil | (apply Ent.pick; focus ((repeat (first | exact Rem.here | apply Rem.there)); done)) | apply Ent.drop))) ?_
      intro j hj
      by_cases hltj : j < 6
      · by_cases e1 : (j : Int) = s % 6
        · have hg := fun (F : List HP) (hg : HalvesC F) => vp_Get m d a b val2 (seg := 8 + (j : Int)) (by omega) hw1 (by rw [e1]; exact hsv1) (F := F)
          simp only [PartS.cells] at hg
          repeat' (first
    | refine swl_op ?_
    | (refine s1_move ?_; refine sc_r (R_move (by rfl)) (by rfl) ?_)
    | (refine s1_assign ?_; refine sc_r (R_assign (by rfl)) (by rfl) ?_)
    | (refine s1_pick ?_; refine sc_r (R_pick_f (by rfl) (by rfl)) (by rfl) ?_)
    | (refine s1_bin ?_; first | refine sc_r (R_lss (by rfl) (by rfl)) (by rfl) ?_ | refine sc_r (R_add64 (by rfl) (by rfl) (by omega)) (by rfl) ?_ | refine sc_r (R_neq (by rfl) (by rfl)) (by rfl) ?_ | refine sc_r (R_rem (by rfl) (by rfl) (by omega)) (by rfl) ?_)
    | (refine s1_call ?_; (refine sc_c (by rfl) (C_call (by rfl) (by infer_instance) (by rfl) (by rfl) (hg _ (by infer_instance))) (by rfl) ?_; rintro _ _ ⟨sv2, bv2, zs2, rfl, _, _, rfl⟩; refine swl_know (fun h H => vec_fact H) ?_; rintro ⟨pU, cU, rfl, hvU⟩))
    | (refine s1_store ?_; (refine sc_w (by rfl) (W_storeAll (by rfl) (by rfl) (by infer_instance) (by rfl) (by rfl) (by rfl)) (by rfl) ?_; rintro _ _ ⟨rfl, rfl⟩))
    | (refine s1_alloc ?_; (refine sc_w (by rfl) W_allocA (by rfl) ?_; rintro _ _ ⟨_, rfl, rfl⟩))
    | (refine s1_conv ?_; refine sc_r (R_conv64 (by rfl) (by omega)) (by rfl) ?_)
    | (refine s1_any ?_; refine sc_r (R_extract (by rfl) (by rfl)) (by rfl) ?_)
    | refine swl_nil ?_
    | refine sx_next ?_
    | refine sw_seq ?_
    | refine sw_region ?_
    | refine sw_block ?_
    | refine swl_g_off (by rfl) (by rfl) (by rfl) (by rfl) ?_
    | refine swl_g_npos (by rfl) (by rfl) (by first | assumption | omega) ?_
    | refine sx_block_normal ?_
    | refine sw_cond_false (by rfl) ?_
    | refine sw_cond_pos (by rfl) (by first | assumption | omega) ?_
    | refine sw_skip ?_
    | fail)
          exact sx_back (j + 1) (by omega) (by omega) (subE.cons rfl (subE.cons rfl (subE.cons rfl (subE.cons rfl subE.nil)))) (by (repeat (first | exact Ent.refl _ | exact Ent.nil | (apply Ent.pick; focus ((repeat (first | exact Rem.here | apply Rem.there)); done)) | apply Ent.drop)))
        · by_cases e2 : (j : Int) = t % 6
          · have hg := fun (F : List HP) (hg : HalvesC F) => vp_Get m d a b val2 (seg := 8 + (j : Int)) (by omega) hw2 (by rw [e2]; exact hsv2) (F := F)
            simp only [PartS.cells] at hg
            repeat' (first
    | refine swl_op ?_
    | (refine s1_move ?_; refine sc_r (R_move (by rfl)) (by rfl) ?_)
    | (refine s1_assign ?_; refine sc_r (R_assign (by rfl)) (by rfl) ?_)
    | (refine s1_pick ?_; first | refine sc_r (R_pick_t (by rfl) (by rfl)) (by rfl) ?_ | refine sc_r (R_pick_f (by rfl) (by rfl)) (by rfl) ?_)
    | (refine s1_bin ?_; first | refine sc_r (R_lss (by rfl) (by rfl)) (by rfl) ?_ | refine sc_r (R_add64 (by rfl) (by rfl) (by omega)) (by rfl) ?_ | refine sc_r (R_neq (by rfl) (by rfl)) (by rfl) ?_ | refine sc_r (R_rem (by rfl) (by rfl) (by omega)) (by rfl) ?_)
    | (refine s1_call ?_; (refine sc_c (by rfl) (C_call (by rfl) (by infer_instance) (by rfl) (by rfl) (hg _ (by infer_instance))) (by rfl) ?_; rintro _ _ ⟨sv2, bv2, zs2, rfl, _, _, rfl⟩; refine swl_know (fun h H => vec_fact H) ?_; rintro ⟨pU, cU, rfl, hvU⟩))
    | (refine s1_store ?_; (refine sc_w (by rfl) (W_storeAll (by rfl) (by rfl) (by infer_instance) (by rfl) (by rfl) (by rfl)) (by rfl) ?_; rintro _ _ ⟨rfl, rfl⟩))
    | (refine s1_alloc ?_; (refine sc_w (by rfl) W_allocA (by rfl) ?_; rintro _ _ ⟨_, rfl, rfl⟩))
    | (refine s1_conv ?_; refine sc_r (R_conv64 (by rfl) (by omega)) (by rfl) ?_)
    | (refine s1_any ?_; refine sc_r (R_extract (by rfl) (by rfl)) (by rfl) ?_)
    | refine swl_nil ?_
    | refine sx_next ?_
    | refine sw_seq ?_
    | refine sw_region ?_
    | refine sw_block ?_
    | refine swl_g_on (by rfl) (by rfl) ?_
    | refine swl_g_off (by rfl) (by rfl) (by rfl) (by rfl) ?_
    | refine swl_g_npos (by rfl) (by rfl) (by first | assumption | omega) ?_
    | refine swl_g_nneg (by rfl) (by rfl) (by first | assumption | omega) ?_
    | refine sx_block_normal ?_
    | refine sw_cond_false (by rfl) ?_
    | refine sw_cond_pos (by rfl) (by first | assumption | omega) ?_
    | refine sw_skip ?_
    | fail)
            exact sx_back (j + 1) (by omega) (by omega) (subE.cons rfl (subE.cons rfl (subE.cons rfl (subE.cons rfl subE.nil)))) (by (repeat (first | exact Ent.refl _ | exact Ent.nil | (apply Ent.pick; focus ((repeat (first | exact Rem.here | apply Rem.there)); done)) | apply Ent.drop)))
          · have hg := fun (F : List HP) (hg : HalvesC F) => vp_Get_none m d a b val2 (seg := 8 + (j : Int)) (by omega) (hno j (by omega) e1 e2) (F := F)
            simp only [PartS.cells] at hg
            repeat' (first
    | refine swl_op ?_
    | (refine s1_move ?_; refine sc_r (R_move (by rfl)) (by rfl) ?_)
    | (refine s1_assign ?_; refine sc_r (R_assign (by rfl)) (by rfl) ?_)
    | (refine s1_pick ?_; refine sc_r (R_pick_t (by rfl) (by rfl)) (by rfl) ?_)
    | (refine s1_bin ?_; first | refine sc_r (R_lss (by rfl) (by rfl)) (by rfl) ?_ | refine sc_r (R_add64 (by rfl) (by rfl) (by omega)) (by rfl) ?_ | refine sc_r (R_neq (by rfl) (by rfl)) (by rfl) ?_ | refine sc_r (R_rem (by rfl) (by rfl) (by omega)) (by rfl) ?_)
    | (refine s1_call ?_; (refine sc_c (by rfl) (C_call (by rfl) (by infer_instance) (by rfl) (by rfl) (hg _ (by infer_instance))) (by rfl) ?_; rintro _ _ ⟨sv2, bv2, rfl, rfl⟩; refine swl_know (fun h H => vec_fact H) ?_; rintro ⟨pU, cU, rfl, hvU⟩))
    | (refine s1_store ?_; (refine sc_w (by rfl) (W_storeAll (by rfl) (by rfl) (by infer_instance) (by rfl) (by rfl) (by rfl)) (by rfl) ?_; rintro _ _ ⟨rfl, rfl⟩))
    | (refine s1_alloc ?_; (refine sc_w (by rfl) W_allocA (by rfl) ?_; rintro _ _ ⟨_, rfl, rfl⟩))
    | (refine s1_conv ?_; refine sc_r (R_conv64 (by rfl) (by omega)) (by rfl) ?_)
    | (refine s1_any ?_; refine sc_r (R_extract (by rfl) (by rfl)) (by rfl) ?_)
    | refine swl_nil ?_
    | refine sx_next ?_
    | refine sw_seq ?_
    | refine sw_region ?_
    | refine sw_block ?_
    | refine swl_g_on (by rfl) (by rfl) ?_
    | refine swl_g_nneg (by rfl) (by rfl) (by first | assumption | omega) ?_
    | refine sx_block_normal ?_
    | refine sw_cond_false (by rfl) ?_
    | refine sw_cond_pos (by rfl) (by first | assumption | omega) ?_
    | refine sw_skip ?_
    | fail)
            exact sx_back (j + 1) (by omega) (by omega) (subE.cons rfl (subE.cons rfl (subE.cons rfl (subE.cons rfl subE.nil)))) (by (repeat (first | exact Ent.refl _ | exact Ent.nil | (apply Ent.pick; focus ((repeat (first | exact Rem.here | apply Rem.there)); done)) | apply Ent.drop)))
      · repeat' (first
    | refine swl_op ?_
    | (refine s1_move ?_; refine sc_r (R_move (by rfl)) (by rfl) ?_)
    | (refine s1_assign ?_; refine sc_r (R_assign (by rfl)) (by rfl) ?_)
    | (refine s1_bin ?_; refine sc_r (R_lss (by rfl) (by rfl)) (by rfl) ?_)
    | (refine s1_call ?_; (refine sc_c (by rfl) (C_call (by rfl) (by infer_instance) (by rfl) (by rfl) (cK _ (by infer_instance))) (by rfl) ?_; rintro _ _ ⟨rfl, rfl⟩))
    | refine swl_nil ?_
    | refine sx_next ?_
    | refine sw_seq ?_
    | refine sw_region ?_
    | refine sx_past_exit ?_
    | refine sx_block_here ?_
    | refine sw_cond_neg (by rfl) (by first | assumption | omega) ?_
    | refine sw_ret ?_
    | refine sw_exit ?_
    | fail)
        exact sx_ret_of (res1 rfl (ResOne.tmp rfl)) _ ⟨rfl, rfl⟩ (by (repeat (first | exact Ent.refl _ | exact Ent.nil | (apply Ent.pick; focus ((repeat (first | exact Rem.here | apply Rem.there)); done)) | apply Ent.drop)))
end Go.Proofs.YtjdnflhejfcgdaaDoor

/-
  VaultApart returns true for every input and leaves its argument as it was, whatever memory it is called in; crc.halves, which it reads, is tied to the program's text; no further condition.
-/
namespace Go.Proofs.YtjdnflhejfcgdaaDoor
open Go Go.SL Go.ChangeShapes Go.WideShapes Go.ChangeAt Go.RowKit Go.Joins

set_option maxRecDepth 100000 in
theorem vaultApart_lifted (os : Os) (started : os.Started) (H : Type) (enc : TypeId × Value → H) :
    ReturnsInHanded {} Tryd.checked os 3 .any (fun w args => (Rows.vaultApartSpec.pre enc Tryd.prog Tryd.f3 [] false w args ∧ laidMetH Tryd.prog halvesLaid w) ∧ sizedMet enc Tryd.prog Tryd.f3 (OpenSpec.ofChange Rows.vaultApartSpec) false w args)
      (Rows.vaultApartSpec.post enc Tryd.prog Tryd.f3 false true false false) := by
  refine returnsInHanded_of_change_and (C := Tryd.checked) (X := fun w _ => laidMetH Tryd.prog halvesLaid w) (fun _ _ _ hh h => h.of_heap hh) own_knob started (by kernel_rfl) Tryd.func3
    (ChangeSpec.witness_shaped (enc := enc) (C := Tryd.checked) (os := os) (X := fun w _ => laidMetH Tryd.prog halvesLaid w) false (World.doorLaid Tryd.prog 400 os) #[.agg #[.slice none 0 0, .slice none 0 0, .int .u8 0, .int .u8 0]] 20 rfl (World.shaped_of_RefB (by kernel_rfl) (by kernel_rfl)) (by kernel_rfl) (by kernel_rfl) (by kernel_rfl) (door_met os _)) ?_
  intro W base args ds gs before hval0 hW _ hsz0 hL _
  have hval : ∀ (j : Nat) t v, Tryd.f3.params[j]? = some t → args[j]? = some v → Value.okWide Tryd.prog W .any base t v := hval0
  have hsz : (DataW.weightsEach Tryd.prog (Tryd.f3.params.toList ++ Rows.vaultApartSpec.plain.varTypes Tryd.prog) (ds ++ gs)).all (· ≤ reachBytes) = true := hsz0
  have hW' := hW
  obtain ⟨p, q, hA0, hV, rfl, hfz, hnd⟩ := hW
  have hA : DataW.TrodAll enc Tryd.prog W 0 (fun _ => true) true Tryd.f3.params.toList args.toList ds p := hA0
  rw [Tryd.params3] at hA hval hsz
  obtain ⟨v0, vs0, d0, ds0, p0, q0, hargs, rfl, rfl, h0, r0⟩ := trodAll_cons hA
  obtain ⟨rfl, rfl, rfl⟩ := trodAll_nil r0
  obtain rfl : args = #[v0] := by cases args; simp_all
  obtain ⟨rfl, rfl⟩ := trodVars_none hV
  have k0 := h0
  have lt0 : ∀ x ∈ p0, x.block < W.heap.size := by obtain ⟨m, hm⟩ := k0; exact DataW.trod_lt m _ _ _ hm
  obtain ⟨c0, c1, c2, c3, y0, y1, y2, y3, fu, rfl, hd, hp0, g0, g1, g2, g3⟩ := open_agg4 Tryd.underlying24 (by kernel_rfl) (by kernel_rfl) (hval 0 24 v0 rfl rfl) h0
  obtain ⟨a0, len0, cap0, hc0⟩ := slice_form Tryd.underlying22 g0
  obtain rfl : c0 = .slice a0 len0 cap0 := by simpa using hc0
  obtain ⟨a1, len1, cap1, hc1⟩ := slice_form Tryd.underlying22 g1
  obtain rfl : c1 = .slice a1 len1 cap1 := by simpa using hc1
  obtain ⟨s, e2, _, w2⟩ := DataW.trod_int Tryd.underlying5 g2
  obtain rfl : c2 = .int .u8 s := by simpa using e2
  obtain ⟨t, e3, _, w3⟩ := DataW.trod_int Tryd.underlying5 g3
  obtain rfl : c3 = .int .u8 t := by simpa using e3
  obtain ⟨us, hl0, w0, _⟩ : ∃ l : List Int, SlC [whole W] a0 1 len0 cap0 (l.map fun z => #[.int .u8 z]) ∧ (∀ z ∈ l, (Lit.int .u8 z).wf = true) ∧ len0 = l.length := by
    refine open_ints Tryd.underlying22 Tryd.underlying5 (by kernel_rfl) g0 ?_
    intro elems sp hes
    subst hd
    have h3 := List.all_eq_true.1 hsz _ (DataW.weights_mem_each (j := 0) (t := 24) rfl rfl ((elems.length + sp.length) * Tryd.prog.bytesOf 5) (by simp [DataW.weights, DataW.weightsEach, Tryd.underlying24, Tryd.underlying22, hes]))
    have h4 : Tryd.prog.bytesOf 5 = 1 := by kernel_rfl
    rw [h4] at h3
    have h5 := reachBytes_lt
    simp only [decide_eq_true_eq] at h3
    omega
  obtain ⟨ws, hl1, w1, _⟩ : ∃ l : List Int, SlC [whole W] a1 1 len1 cap1 (l.map fun z => #[.int .u8 z]) ∧ (∀ z ∈ l, (Lit.int .u8 z).wf = true) ∧ len1 = l.length := by
    refine open_ints Tryd.underlying22 Tryd.underlying5 (by kernel_rfl) g1 ?_
    intro elems sp hes
    subst hd
    have h3 := List.all_eq_true.1 hsz _ (DataW.weights_mem_each (j := 0) (t := 24) rfl rfl ((elems.length + sp.length) * Tryd.prog.bytesOf 5) (by simp [DataW.weights, DataW.weightsEach, Tryd.underlying24, Tryd.underlying22, hes]))
    have h4 : Tryd.prog.bytesOf 5 = 1 := by kernel_rfl
    rw [h4] at h3
    have h5 := reachBytes_lt
    simp only [decide_eq_true_eq] at h3
    omega

  have hC := halves_of_laid hL
  clear hA0 hval0
  refine (Tr.below (v := .bool true) ((law_VaultApart us ws s t (fun z hz => wf_u8 (w0 z hz)) (fun z hz => wf_u8 (w1 z hz)) (wf_u8 w2) (wf_u8 w3) (hla := hl0) (hlb := hl1) (L := [whole W])).weaken fun v L' h => ⟨L', Ent.refl _, h.1, h.2.symm⟩)).mono fun e W' ⟨he, bel⟩ => ?_
  subst he
  exact ⟨_, rfl, _, _, _, [], _, [], hW', trodAll_mk1 (shut_bool Tryd.underlying4 _), (trodAll_cons_mk (Below.trod laid_out (by kernel_rfl) (of_decide_eq_true (by kernel_rfl)) k0 bel lt0) trodAll_mk0), rfl, bel.frame _, fun h => by cases h⟩

theorem vaultApart_row : Rows.VaultApartSaid :=
  OpenClaim.holds_of_wide 3 Tryd.f3 rfl rfl rfl rfl rfl rfl rfl ⟨rfl, rfl, rfl, rfl, rfl⟩ rfl rfl rfl rfl rfl (by kernel_rfl) Tryd.func3 (by kernel_rfl)
    (of_decide_eq_true (by kernel_rfl)) (by unfold Func.isWrapper; first | (rw [if_pos (by decide +kernel)]; kernel_rfl) | (rw [if_neg (by decide +kernel)]; exact ⟨rfl, rfl⟩))
    (fun os started H enc _ => vaultApart_lifted os started H enc)

theorem vaultApart_holds : Rows.VaultApartCardSaid :=
  Claim7.holds_tied_plain_at .later [] [.data] true (true, "5b89e90cde3a50a738050261dd56ba187339b13d7acc54e8506573a99a4bbcc4") false
    vaultApart_row (fun _ h => by cases h) (by kernel_rfl) (fun _ h => by cases h) vaultApart_row_tie rfl ⟨rfl, rfl⟩ (by kernel_rfl) rfl
    (fun f fn hf hfn => by
      obtain rfl : f = 3 := Option.some.inj ((show Tryd.prog.funcNamed "haymow/haymowlaw22.VaultApart" = some 3 by kernel_rfl).symm.trans hf) |>.symm
      obtain rfl : fn = Tryd.f3 := (Option.some.inj (Tryd.func3.symm.trans hfn)).symm
      exact ⟨by kernel_rfl, fun j t ht => by
        rw [Tryd.params3] at ht
        have hm : t ∈ [24] := by simpa using Array.mem_of_getElem? ht
        have hall : ([24].all fun u => !Tryd.prog.wantsStandIn u) = true := by kernel_rfl
        exact (show Tryd.prog.wantsStandIn t = false by simpa using List.all_eq_true.1 hall t hm)⟩)
    (by kernel_rfl)
#print axioms vaultApart_holds
end Go.Proofs.YtjdnflhejfcgdaaDoor
