import Derived.Test.YtjdnflhejfcgdaaDoorK4

/-
  Vaults: the segment that is written next; how many were used; addresses.
-/
namespace Go.Proofs.YtjdnflhejfcgdaaDoor
open Go Go.SL Go.Proofs

def arr8 (l : List Int) : Array Value := (l.map (Value.int .i64)).toArray
theorem arr8_get {l : List Int} {k : Nat} (h : k < l.length) : (arr8 l)[0 + (k : Int).toNat * 1]? = some (.int .i64 (l.getD k 0)) := by
  simp [arr8, List.getD, h]
theorem arr8_set (l : List Int) (k : Nat) (x : Int) : (arr8 l).setIfInBounds (0 + (k : Int).toNat * 1) (.int .i64 x) = arr8 (l.set k x) := by
  apply Array.ext'
  simp [arr8, List.map_set]
def nextF (g : Geo) (nv : Nat) (gens used : List Int) : Nat → Nat → Int × Int
  | 0, _ => (0, 8)
  | r + 1, v => if used.getD v 0 < 0 ∨ g.segs ≤ used.getD v 0 ∨ genF nv gens v = -1 then nextF g nv gens used r (v + 1) else if (ofP g ⟨v, used.getD v 0, 0⟩).2 = 0 then segOf g (ofP g ⟨v, used.getD v 0, 0⟩).1 else (0, (ofP g ⟨v, used.getD v 0, 0⟩).2)

set_option maxHeartbeats 2000000 in
theorem vault_Next (m d : Nat) (g : Geo) (hm : mayG g = true) (gens : List Int) (vs : List Nat) (used : List Int) (h8 : used.length = 8) {F : List HP} :
    Tr Tryd.prog 16 [.pointer (some ⟨m, 0, none⟩), .agg (arr8 used)].toArray (medP m d vs g gens :: F) (fun v L' => v = .tuple #[.int .i64 (nextF g vs.length gens used g.vols.toNat 0).1, .int .i64 (nextF g vs.length gens used g.vols.toNat 0).2] ∧ L' = medP m d vs g gens :: F) := by
  refine tr_enter Tryd.func16 rfl Tryd.ntmps16 rfl fun w0 => ?_
  have hg := mayG_is hm
  have cG := fun (F : List HP) => medium_Geo m d vs g gens (F := F)
  have cN := fun (v : Int) (F : List HP) => medium_Gen m d g gens vs v (F := F)
  simp only [Geo.cells] at cG
  repeat' (first
    | refine swl_op ?_
    | (refine s1_move ?_; refine sc_r (R_move (by rfl)) (by rfl) ?_)
    | (refine s1_load ?_; refine sc_r (L_load' (by rfl) (by infer_instance) (by rfl)) (by rfl) ?_)
    | (refine s1_fieldAddr ?_; refine sc_r (R_fieldAddr (by rfl)) (by rfl) ?_)
    | (refine s1_assign ?_; refine sc_r (R_assign (by rfl)) (by rfl) ?_)
    | (refine s1_call ?_; (refine sc_c (by rfl) (C_call (by rfl) (by infer_instance) (by rfl) (by rfl) (Tr.ent (Ent.pickC (by infer_instance) (Ent.refl _)) (cG _))) (by rfl) ?_; rintro _ _ ⟨rfl, rfl⟩))
    | (refine s1_store ?_; (refine sc_w (by rfl) (W_storeAll (by rfl) (by rfl) (by infer_instance) (by rfl) (by rfl) (by rfl)) (by rfl) ?_; rintro _ _ ⟨rfl, rfl⟩))
    | (refine s1_alloc ?_; (refine sc_w (by rfl) W_allocA (by rfl) ?_; rintro _ _ ⟨_, rfl, rfl⟩))
    | (refine s1_box ?_; (refine sc_w (by rfl) (W_boxA (by rfl)) (by rfl) ?_; rintro _ _ ⟨_, rfl, rfl⟩))
    | refine swl_nil ?_
    | refine sx_next ?_
    | refine sw_seq ?_
    | refine sw_region ?_
    | refine sw_block ?_
    | fail)
  rename_i b3 b6
  refine sw_loop (γ := Nat) (fun k => g.vols.toNat - k) (fun k => [(0, .pointer (some ⟨m, 0, none⟩)), (3, .pointer (some ⟨b3, 0, none⟩)), (6, .pointer (some ⟨b6, 0, none⟩)), (14, .int .i64 g.vols), (15, .int .i64 k)])
    (fun _ => pt b6 (.cells #[.int .i64 g.disk, .int .i64 g.lines, .int .i64 g.vols, .int .i64 g.segs] 46) :: medP m d vs g gens :: pt b3 (.cells (arr8 used) 54) :: F)
    (fun k => k ≤ g.vols.toNat ∧ nextF g vs.length gens used g.vols.toNat 0 = nextF g vs.length gens used (g.vols.toNat - k) k) 0 ⟨by omega, rfl⟩ (subE.cons rfl (subE.cons rfl (subE.cons rfl (subE.cons rfl (subE.cons rfl subE.nil))))) (by (repeat (first | exact Ent.refl _ | exact Ent.nil | (apply Ent.pick; focus ((repeat (first | exact Rem.here | apply Rem.there)); done)) | apply Ent.drop))) ?_
  rintro k ⟨hk, hnx⟩
  by_cases hlt : k < g.vols.toNat
  · have he := arr8_get (l := used) (k := k) (by omega)
    rw [show g.vols.toNat - k = (g.vols.toNat - (k + 1)) + 1 by omega] at hnx
    have r1 : used.getD k 0 < 0 ∨ g.segs ≤ used.getD k 0 ∨ genF vs.length gens k = -1 → nextF g vs.length gens used g.vols.toNat 0 = nextF g vs.length gens used (g.vols.toNat - (k + 1)) (k + 1) := fun h => hnx.trans (if_pos h)
    have r2 : ¬ (used.getD k 0 < 0 ∨ g.segs ≤ used.getD k 0 ∨ genF vs.length gens k = -1) → nextF g vs.length gens used g.vols.toNat 0 = if (ofP g ⟨k, used.getD k 0, 0⟩).2 = 0 then segOf g (ofP g ⟨k, used.getD k 0, 0⟩).1 else (0, (ofP g ⟨k, used.getD k 0, 0⟩).2) := fun h => hnx.trans (if_neg h)
    generalize nextF g vs.length gens used g.vols.toNat 0 = R at *
    have cNk := cN (k : Int)
    generalize used.getD k 0 = u at *
    have cO := fun (L : List HP) => addr_Of g ⟨k, u, 0⟩ (L := L)
    generalize ofP g ⟨k, u, 0⟩ = o at *
    obtain ⟨oa, oe⟩ := o
    have cS := fun (L : List HP) => addr_Segment g oa (L := L)
    dsimp only at r2 cO
    generalize segOf g oa = sg at *
    obtain ⟨sa, se⟩ := sg
    generalize genF vs.length gens k = gk at *
    simp only [Geo.cells, Place.cells] at *
    clear hnx
    repeat' (first
    | (refine s1_load ?_; refine sc_r (L_load (by rfl) (by infer_instance) he) (by rfl) ?_)
    | refine swl_op ?_
    | (refine s1_move ?_; refine sc_r (R_move (by rfl)) (by rfl) ?_)
    | (refine s1_load ?_; first | refine sc_r (L_load' (by rfl) (by infer_instance) (by rfl)) (by rfl) ?_ | refine sc_r (L_load_all (by rfl) (by infer_instance) (by rfl)) (by rfl) ?_)
    | (refine s1_fieldAddr ?_; refine sc_r (R_fieldAddr (by rfl)) (by rfl) ?_)
    | (refine s1_assign ?_; refine sc_r (R_assign (by rfl)) (by rfl) ?_)
    | (refine s1_pick ?_; first | refine sc_r (R_pick_t (by rfl) (by rfl)) (by rfl) ?_ | refine sc_r (R_pick_f (by rfl) (by rfl)) (by rfl) ?_)
    | (refine s1_bin ?_; first | refine sc_r (R_lss (by rfl) (by rfl)) (by rfl) ?_ | refine sc_r (R_add64 (by rfl) (by rfl) (by omega)) (by rfl) ?_ | refine sc_r (R_geq (by rfl) (by rfl)) (by rfl) ?_ | refine sc_r (R_eql (by rfl) (by rfl)) (by rfl) ?_ | refine sc_r (R_neq (by rfl) (by rfl)) (by rfl) ?_)
    | (refine s1_call ?_; first | (refine sc_c (by rfl) (C_call (by rfl) (by infer_instance) (by rfl) (by rfl) (Tr.ent (Ent.pickC (by infer_instance) (Ent.refl _)) (cNk _))) (by rfl) ?_; rintro _ _ ⟨rfl, rfl⟩) | (refine sc_c (by rfl) (C_call (by rfl) (by infer_instance) (by rfl) (by rfl) (cO _)) (by rfl) ?_; rintro _ _ ⟨rfl, rfl⟩) | (refine sc_c (by rfl) (C_call (by rfl) (by infer_instance) (by rfl) (by rfl) (cS _)) (by rfl) ?_; rintro _ _ ⟨rfl, rfl⟩))
    | (refine s1_indexAddr ?_; refine sc_r (R_indexAddr_arr (by rfl) (by rfl) (by omega)) (by rfl) ?_)
    | (refine s1_any ?_; first | refine sc_r (R_buildL (by rfl) (by rfl)) (by rfl) ?_ | refine sc_r (R_extract (by rfl) (by rfl)) (by rfl) ?_)
    | refine swl_nil ?_
    | refine sx_next ?_
    | refine sw_seq ?_
    | refine sw_region ?_
    | refine sw_block ?_
    | refine swl_g_on (by rfl) (by rfl) ?_
    | refine swl_g_off (by rfl) (by rfl) (by rfl) (by rfl) ?_
    | refine swl_g_dec (by rfl) (by rfl) (fun hp => ?_) (fun hp => ?_)
    | refine sx_past_ret ?_
    | refine sx_past_exit ?_
    | refine sx_block_ret ?_
    | refine sx_block_here ?_
    | refine sw_cond_true (by rfl) ?_
    | refine sw_cond_pos (by rfl) (by first | assumption | omega) ?_
    | refine sw_cond_dec (by rfl) (fun hp => ?_) (fun hp => ?_)
    | refine sw_cond_not (by rfl) (fun hp => ?_) (fun hp => ?_)
    | refine sw_ret ?_
    | refine sw_exit ?_
    | refine sw_skip ?_
    | fail)
    rotate_left 3
    · rw [r2 (by omega), if_neg (by assumption)]
      exact sx_ret_of (res2 rfl (ResOne.tmp rfl) (ResOne.tmp rfl)) _ ⟨rfl, rfl⟩ (by (repeat (first | exact Ent.refl _ | exact Ent.nil | (apply Ent.pick; focus ((repeat (first | exact Rem.here | apply Rem.there)); done)) | apply Ent.drop)))
    · rw [r2 (by omega), if_pos (by assumption)]
      exact sx_ret_of (res2 rfl (ResOne.tmp rfl) (ResOne.tmp rfl)) _ ⟨rfl, rfl⟩ (by (repeat (first | exact Ent.refl _ | exact Ent.nil | (apply Ent.pick; focus ((repeat (first | exact Rem.here | apply Rem.there)); done)) | apply Ent.drop)))
    all_goals exact sx_back (k + 1) (by omega) ⟨by omega, r1 (by omega)⟩ (subE.cons rfl (subE.cons rfl (subE.cons rfl (subE.cons rfl (subE.cons rfl subE.nil))))) (by (repeat (first | exact Ent.refl _ | exact Ent.nil | (apply Ent.pick; focus ((repeat (first | exact Rem.here | apply Rem.there)); done)) | apply Ent.drop)))
  · rw [show g.vols.toNat - k = 0 by omega] at hnx
    rw [hnx]
    repeat' (first
    | refine swl_op ?_
    | (refine s1_assign ?_; refine sc_r (R_assign (by rfl)) (by rfl) ?_)
    | (refine s1_bin ?_; refine sc_r (R_lss (by rfl) (by rfl)) (by rfl) ?_)
    | refine swl_nil ?_
    | refine sx_next ?_
    | refine sw_seq ?_
    | refine sw_region ?_
    | refine sx_past_exit ?_
    | refine sx_block_here ?_
    | refine sw_cond_neg (by rfl) (by first | assumption | omega) ?_
    | refine sw_ret ?_
    | refine sw_exit ?_
    | fail)
    exact sx_ret_of (res2 rfl (ResOne.tmp rfl) (ResOne.tmp rfl)) _ ⟨rfl, rfl⟩ (by (repeat (first | exact Ent.refl _ | exact Ent.nil | (apply Ent.pick; focus ((repeat (first | exact Rem.here | apply Rem.there)); done)) | apply Ent.drop)))
end Go.Proofs.YtjdnflhejfcgdaaDoor

/-
  Vaults: how many segments were used; the addresses of blocks.
-/
namespace Go.Proofs.YtjdnflhejfcgdaaDoor
open Go Go.SL Go.Proofs

def usedAt (g : Geo) (vl : List (Nat × DevS)) (told : List Int) (v : Nat) : Int := if (blMR vl v).2 = 0 then (blMR vl v).1 else min (max (told.getD v 0) 0) g.segs
def usedTo (g : Geo) (vl : List (Nat × DevS)) (told : List Int) (n : Nat) : List Int := (List.range n).map (usedAt g vl told) ++ List.replicate (8 - n) 0
def usedF (g : Geo) (vl : List (Nat × DevS)) (told : List Int) : List Int := usedTo g vl told g.vols.toNat
theorem usedTo_len (g : Geo) (vl : List (Nat × DevS)) (told : List Int) {n : Nat} (h : n ≤ 8) : (usedTo g vl told n).length = 8 := by simp [usedTo]; omega
theorem usedTo_set (g : Geo) (vl : List (Nat × DevS)) (told : List Int) {n : Nat} (h : n < 8) : (usedTo g vl told n).set n (usedAt g vl told n) = usedTo g vl told (n + 1) := by
  unfold usedTo
  rw [List.set_append_right _ _ (by simp), List.length_map, List.length_range, Nat.sub_self, show 8 - n = (8 - (n + 1)) + 1 by omega, List.replicate_succ, List.set_cons_zero, List.range_succ, List.map_append]
  simp

set_option maxHeartbeats 2000000 in
theorem vault_Used (m d : Nat) (g : Geo) (hm : mayG g = true) (gens : List Int) (vl : List (Nat × DevS)) (told : List Int) (h8 : told.length = 8) (hv : ∀ x ∈ vl, x.2.blocks.length ≤ 8192 ∧ 0 < x.2.blocks.length) (hbl : ∀ v, (blMR vl v).1 ≤ 1000000000) {F : List HP} :
    Tr Tryd.prog 17 [.pointer (some ⟨m, 0, none⟩), .agg (arr8 told)].toArray (medP m d (vl.map Prod.fst) g gens :: devsP vl :: F) (fun v L' => v = .agg (arr8 (usedF g vl told)) ∧ L' = medP m d (vl.map Prod.fst) g gens :: devsP vl :: F) := by
  refine tr_enter Tryd.func17 rfl Tryd.ntmps17 rfl fun w0 => ?_
  have hg := mayG_is hm
  have cG := fun (F : List HP) => medium_Geo m d (vl.map Prod.fst) g gens (F := F)
  have cB := fun (v : Int) (F : List HP) => medium_Blank m d g gens vl v hv (F := F)
  simp only [Geo.cells] at cG
  repeat' (first
    | refine swl_op ?_
    | (refine s1_move ?_; refine sc_r (R_move (by rfl)) (by rfl) ?_)
    | (refine s1_load ?_; refine sc_r (L_load' (by rfl) (by infer_instance) (by rfl)) (by rfl) ?_)
    | (refine s1_fieldAddr ?_; refine sc_r (R_fieldAddr (by rfl)) (by rfl) ?_)
    | (refine s1_call ?_; (refine sc_c (by rfl) (C_call (by rfl) (by infer_instance) (by rfl) (by rfl) (Tr.ent (Ent.pickC (by infer_instance) (Ent.refl _)) (cG _))) (by rfl) ?_; rintro _ _ ⟨rfl, rfl⟩))
    | (refine s1_store ?_; (refine sc_w (by rfl) (W_storeAll (by rfl) (by rfl) (by infer_instance) (by rfl) (by rfl) (by rfl)) (by rfl) ?_; rintro _ _ ⟨rfl, rfl⟩))
    | (refine s1_alloc ?_; (refine sc_w (by rfl) W_allocA (by rfl) ?_; rintro _ _ ⟨_, rfl, rfl⟩))
    | (refine s1_box ?_; (refine sc_w (by rfl) (W_boxA (by rfl)) (by rfl) ?_; rintro _ _ ⟨_, rfl, rfl⟩))
    | refine swl_nil ?_
    | refine sx_next ?_
    | refine sw_seq ?_
    | refine sw_region ?_
    | refine sw_block ?_
    | fail)
  rename_i b3 b4 b5 b6
  refine sw_loop (γ := Nat) (fun k => g.vols.toNat - k) (fun k => [(0, .pointer (some ⟨m, 0, none⟩)), (3, .pointer (some ⟨b3, 0, none⟩)), (4, .pointer (some ⟨b4, 0, none⟩)), (5, .pointer (some ⟨b5, 0, none⟩)), (6, .pointer (some ⟨b6, 0, none⟩)), (13, .int .i64 g.vols), (14, .int .i64 k)])
    (fun k => pt b5 (.cells (arr8 (usedTo g vl told k)) 54) :: pt b6 (.cells #[.int .i64 g.disk, .int .i64 g.lines, .int .i64 g.vols, .int .i64 g.segs] 46) :: medP m d (vl.map Prod.fst) g gens :: devsP vl :: pt b4 (.cells (arr8 (usedTo g vl told 0)) 54) :: pt b3 (.cells (arr8 told) 54) :: F)
    (fun k => k ≤ g.vols.toNat) 0 (by omega) (subE.cons rfl (subE.cons rfl (subE.cons rfl (subE.cons rfl (subE.cons rfl (subE.cons rfl (subE.cons rfl subE.nil))))))) (by (repeat (first | exact Ent.refl _ | exact Ent.nil | (apply Ent.pick; focus ((repeat (first | exact Rem.here | apply Rem.there)); done)) | apply Ent.drop))) ?_
  rintro k hk
  by_cases hlt : k < g.vols.toNat
  · have he := arr8_get (l := told) (k := k) (by omega)
    have hset := arr8_set (usedTo g vl told k) k
    have hst := usedTo_set g vl told (n := k) (by omega)
    have hsz : 0 + (k : Int).toNat * 1 < (arr8 (usedTo g vl told k)).size := by simp [arr8, usedTo_len g vl told (show k ≤ 8 by omega)]; omega
    have r1 : (blMR vl k).2 = 0 → usedAt g vl told k = (blMR vl k).1 := fun h => if_pos h
    have r2 : ¬ (blMR vl k).2 = 0 → usedAt g vl told k = min (max (told.getD k 0) 0) g.segs := fun h => if_neg h
    generalize usedAt g vl told k = ua at *
    have cBk := cB (k : Int)
    generalize blMR vl (k : Int) = bl at *
    obtain ⟨bn, be⟩ := bl
    dsimp only at *
    have hset2 := hset ua
    rw [hst] at hset2
    by_cases h0 : be = 0
    · subst h0
      rw [← r1 rfl] at cBk
      repeat' (first
    | (refine s1_store ?_; refine sc_w (by rfl) (W_store1 (v := .int .i64 ua) (by rfl) (by rfl) (by infer_instance) (by rfl) hsz (by rfl)) (by rfl) ?_; rintro _ _ ⟨rfl, rfl⟩; rw [hset2])
    | refine swl_op ?_
    | (refine s1_move ?_; refine sc_r (R_move (by rfl)) (by rfl) ?_)
    | (refine s1_assign ?_; refine sc_r (R_assign (by rfl)) (by rfl) ?_)
    | (refine s1_bin ?_; first | refine sc_r (R_lss (by rfl) (by rfl)) (by rfl) ?_ | refine sc_r (R_add64 (by rfl) (by rfl) (by omega)) (by rfl) ?_ | refine sc_r (R_neq (by rfl) (by rfl)) (by rfl) ?_)
    | (refine s1_call ?_; (refine sc_c (by rfl) (C_call (by rfl) (by infer_instance) (by rfl) (by rfl) (Tr.ent (Ent.pickC (by infer_instance) (Ent.pickC (by infer_instance) (Ent.refl _))) (cBk _))) (by rfl) ?_; rintro _ _ ⟨rfl, rfl⟩))
    | (refine s1_indexAddr ?_; refine sc_r (R_indexAddr_arr (by rfl) (by rfl) (by omega)) (by rfl) ?_)
    | (refine s1_any ?_; refine sc_r (R_extract (by rfl) (by rfl)) (by rfl) ?_)
    | refine swl_nil ?_
    | refine sx_next ?_
    | refine sw_seq ?_
    | refine sw_region ?_
    | refine sw_block ?_
    | refine sx_block_normal ?_
    | refine sw_cond_false (by rfl) ?_
    | refine sw_cond_pos (by rfl) (by first | assumption | omega) ?_
    | refine sw_skip ?_
    | fail)
      exact sx_back (k + 1) (by omega) (by omega) (subE.cons rfl (subE.cons rfl (subE.cons rfl (subE.cons rfl (subE.cons rfl (subE.cons rfl (subE.cons rfl subE.nil))))))) (by (repeat (first | exact Ent.refl _ | exact Ent.nil | (apply Ent.pick; focus ((repeat (first | exact Rem.here | apply Rem.there)); done)) | apply Ent.drop)))
    · rw [r2 h0] at hset2
      repeat' (first
    | (refine s1_load ?_; refine sc_r (L_load (by rfl) (by infer_instance) he) (by rfl) ?_)
    | (refine s1_store ?_; refine sc_w (by rfl) (W_store1 (v := .int .i64 (min (max (told.getD k 0) 0) g.segs)) (by rfl) (by rfl) (by infer_instance) (by rfl) hsz (by rfl)) (by rfl) ?_; rintro _ _ ⟨rfl, rfl⟩; rw [hset2])
    | refine swl_op ?_
    | (refine s1_move ?_; refine sc_r (R_move (by rfl)) (by rfl) ?_)
    | (refine s1_load ?_; refine sc_r (L_load' (by rfl) (by infer_instance) (by rfl)) (by rfl) ?_)
    | (refine s1_fieldAddr ?_; refine sc_r (R_fieldAddr (by rfl)) (by rfl) ?_)
    | (refine s1_assign ?_; refine sc_r (R_assign (by rfl)) (by rfl) ?_)
    | (refine s1_bin ?_; first | refine sc_r (R_lss (by rfl) (by rfl)) (by rfl) ?_ | refine sc_r (R_add64 (by rfl) (by rfl) (by omega)) (by rfl) ?_ | refine sc_r (R_neq (by rfl) (by rfl)) (by rfl) ?_)
    | (refine s1_call ?_; first | (refine sc_c (by rfl) (C_call (by rfl) (by infer_instance) (by rfl) (by rfl) (Tr.ent (Ent.pickC (by infer_instance) (Ent.pickC (by infer_instance) (Ent.refl _))) (cBk _))) (by rfl) ?_; rintro _ _ ⟨rfl, rfl⟩) | refine sc_r (R_max (by rfl) (by rfl)) (by rfl) ?_ | refine sc_r (R_min (by rfl) (by rfl)) (by rfl) ?_)
    | (refine s1_indexAddr ?_; refine sc_r (R_indexAddr_arr (by rfl) (by rfl) (by omega)) (by rfl) ?_)
    | (refine s1_any ?_; refine sc_r (R_extract (by rfl) (by rfl)) (by rfl) ?_)
    | refine swl_nil ?_
    | refine sx_next ?_
    | refine sw_seq ?_
    | refine sw_region ?_
    | refine sw_block ?_
    | refine sx_block_normal ?_
    | refine sw_cond_pos (by rfl) (by first | assumption | omega) ?_
    | refine sw_cond_nneg (by rfl) (by first | assumption | omega) ?_
    | refine sw_skip ?_
    | refine swh_lt (by rfl) (fun _ _ => wanted_none) ?_
    | refine swh_nil ?_
    | (refine sw_draw [(0, true), (1, true), (2, true), (3, true), (4, true), (5, true), (6, true), (7, true)] follows ?_ ?_ ?_; (focus rfl); (focus (decide +kernel)))
    | fail)
      exact sx_back (k + 1) (by omega) (by omega) (subE.cons rfl (subE.cons rfl (subE.cons rfl (subE.cons rfl (subE.cons rfl (subE.cons rfl (subE.cons rfl subE.nil))))))) (by (repeat (first | exact Ent.refl _ | exact Ent.nil | (apply Ent.pick; focus ((repeat (first | exact Rem.here | apply Rem.there)); done)) | apply Ent.drop)))
  · obtain rfl : k = g.vols.toNat := by omega
    have h1 := usedTo_len g vl told (n := g.vols.toNat) (by omega)
    have h2 := usedTo_len g vl told (n := 0) (by omega)
    have hF : usedF g vl told = usedTo g vl told g.vols.toNat := rfl
    rw [hF]
    generalize usedTo g vl told g.vols.toNat = u at *
    generalize usedTo g vl told 0 = z at *
    have hu8 : (arr8 u).size = 8 := by simp [arr8, h1]
    have hz8 : (arr8 z).size = 8 := by simp [arr8, h2]
    have hone : ∀ v ∈ (arr8 u).toList, v.oneCell' = true := by
      intro v hv'
      simp only [arr8, List.mem_map] at hv'
      obtain ⟨x, _, rfl⟩ := hv'; rfl
    have hext : (arr8 u).extract 0 (0 + 8) = arr8 u := by simp [← hu8]
    repeat' (first
    | (refine s1_load ?_; refine sc_r (L_load_agg (cs := arr8 u) (n := 8) (by rfl) (by infer_instance) (by omega) hext) (by rfl) ?_)
    | refine swl_op ?_
    | (refine s1_bin ?_; refine sc_r (R_lss (by rfl) (by rfl)) (by rfl) ?_)
    | (refine s1_store ?_; (refine sc_w (by rfl) (W_storeAllS (by rfl) (by rfl) (by infer_instance) hu8 hz8 hone) (by rfl) ?_; rintro _ _ ⟨rfl, rfl⟩))
    | refine swl_nil ?_
    | refine sx_next ?_
    | refine sw_seq ?_
    | refine sw_region ?_
    | refine sx_past_exit ?_
    | refine sx_block_here ?_
    | refine sw_cond_neg (by rfl) (by first | assumption | omega) ?_
    | refine sw_ret ?_
    | refine sw_exit ?_
    | fail)
    have hul : (arr8 u).toList.length = 8 := by simp [arr8, h1]
    exact sx_ret_of (res1 rfl (ResOne.cellA (by rfl) (by infer_instance) (by rw [hul]; rfl))) _ ⟨rfl, rfl⟩ (by (repeat (first | exact Ent.refl _ | exact Ent.nil | (apply Ent.pick; focus ((repeat (first | exact Rem.here | apply Rem.there)); done)) | apply Ent.drop)))

def addrsF (g : Geo) (seg n : Int) : List Int × Int := if mayG g = true ∧ 1 ≤ n ∧ n ≤ 13 then (if (volF g seg).2.2 = 0 then ((List.range n.toNat).map fun (i : Nat) => (volF g seg).1 + 1 + (i : Int), 0) else ([], 4)) else ([], 1)
theorem vault_Addresses (g : Geo) (seg n : Int) {L : List HP} : Tr Tryd.prog 12 [.agg g.cells, .int .i64 seg, .int .i64 n].toArray L (fun v L' => ∃ s, v = .tuple #[s, .int .i64 (addrsF g seg n).2] ∧ L' = vec 3 1 ((addrsF g seg n).1.map i64c) s :: L) := by
  refine tr_enter Tryd.func12 rfl Tryd.ntmps12 rfl fun w0 => ?_
  have cM := fun (L : List HP) => addr_May g (L := L)
  have cV := fun (L : List HP) => vault_volume g seg (L := L)
  have hvb := volF_bd g seg
  have hve := volF_e g seg
  unfold addrsF
  generalize volF g seg = vf at *
  obtain ⟨a, vol, e⟩ := vf
  generalize mayG g = mg at *
  simp only [Geo.cells] at *
  by_cases hA : mg = true ∧ 1 ≤ n ∧ n ≤ 13
  · rw [if_pos hA]
    obtain ⟨rfl, h1, h2⟩ := hA
    by_cases he : e = 0
    · subst he
      rw [if_pos rfl]
      obtain ⟨N, rfl⟩ := Int.eq_ofNat_of_zero_le (show 0 ≤ n by omega)
      rw [Int.toNat_natCast]
      repeat' (first
    | refine swl_op ?_
    | (refine s1_move ?_; refine sc_r (R_move (by rfl)) (by rfl) ?_)
    | (refine s1_load ?_; refine sc_r (L_load_all (by rfl) (by infer_instance) (by rfl)) (by rfl) ?_)
    | (refine s1_assign ?_; refine sc_r (R_assign (by rfl)) (by rfl) ?_)
    | (refine s1_pick ?_; refine sc_r (R_pick_f (by rfl) (by rfl)) (by rfl) ?_)
    | (refine s1_bin ?_; first | refine sc_r (R_lss (by rfl) (by rfl)) (by rfl) ?_ | refine sc_r (R_gtr (by rfl) (by rfl)) (by rfl) ?_ | refine sc_r (R_neq (by rfl) (by rfl)) (by rfl) ?_)
    | (refine s1_call ?_; first | (refine sc_c (by rfl) (C_call (by rfl) (by infer_instance) (by rfl) (by rfl) (cM _)) (by rfl) ?_; rintro _ _ ⟨rfl, rfl⟩) | (refine sc_c (by rfl) (C_call (by rfl) (by infer_instance) (by rfl) (by rfl) (cV _)) (by rfl) ?_; rintro _ _ ⟨rfl, rfl⟩) | refine sc_r (R_len (by rfl)) (by rfl) ?_)
    | (refine s1_box ?_; (refine sc_w (by rfl) (W_boxA (by rfl)) (by rfl) ?_; rintro _ _ ⟨_, rfl, rfl⟩))
    | (refine s1_any ?_; first | refine sc_r (R_not (by rfl)) (by rfl) ?_ | refine sc_r (R_extract (by rfl) (by rfl)) (by rfl) ?_ | (refine sc_w (by rfl) (W_makeSlice (n' := N) (c' := N) (zc := #[.int .i64 0]) (by rfl) (by rfl) (by rfl) (by omega) (by omega) (by omega) (by omega)) (by rfl) ?_; rintro _ _ ⟨b0, rfl, hok, rfl⟩))
    | refine swl_nil ?_
    | refine sx_next ?_
    | refine sw_seq ?_
    | refine sw_region ?_
    | refine sw_block ?_
    | refine swl_g_on (by rfl) (by rfl) ?_
    | refine swl_g_neg (by rfl) (by rfl) (by first | assumption | omega) ?_
    | refine sw_cond_false (by rfl) ?_
    | refine sw_cond_neg (by rfl) (by first | assumption | omega) ?_
    | refine sw_skip ?_
    | fail)
      refine sw_loop (γ := Nat) (fun k => N - k) (fun k => [(8, .int .i64 a), (11, .slice (some ⟨b0, 0, none⟩) N N), (37, .int .i64 N), (38, .int .i64 k)])
        (fun k => vec 3 1 (((List.range k).map fun (i : Nat) => a + 1 + (i : Int)).map i64c ++ List.replicate (N - k) #[.int .i64 0]) (.slice (some ⟨b0, 0, none⟩) N N) :: L) (fun k => k ≤ N) 0 (by omega)
        (subE.cons rfl (subE.cons rfl (subE.cons rfl (subE.cons rfl subE.nil)))) (by (repeat (first | exact Ent.refl _ | exact Ent.nil | (apply Ent.pick; focus ((repeat (first | exact Rem.here | apply Rem.there)); done)) | apply Ent.drop))) ?_
      intro k hk
      by_cases hlt : k < N
      · have hset : (((List.range k).map fun (i : Nat) => a + 1 + (i : Int)).map i64c ++ List.replicate (N - k) #[Value.int .i64 0]).set k #[.int .i64 (a + 1 + (k : Int))] = ((List.range (k + 1)).map fun (i : Nat) => a + 1 + (i : Int)).map i64c ++ List.replicate (N - (k + 1)) #[Value.int .i64 0] := by
          rw [List.set_append_right _ _ (by simp), List.length_map, List.length_map, List.length_range, Nat.sub_self, show N - k = (N - (k + 1)) + 1 by omega, List.replicate_succ, List.set_cons_zero, List.range_succ]
          simp [i64c]
        have hli : k < (((List.range k).map fun (i : Nat) => a + 1 + (i : Int)).map i64c ++ List.replicate (N - k) #[Value.int .i64 0]).length := by simp; omega
        repeat' (first
    | refine swl_op ?_
    | (refine s1_move ?_; refine sc_r (R_move (by rfl)) (by rfl) ?_)
    | (refine s1_assign ?_; refine sc_r (R_assign (by rfl)) (by rfl) ?_)
    | (refine s1_bin ?_; first | refine sc_r (R_lss (by rfl) (by rfl)) (by rfl) ?_ | refine sc_r (R_add64 (by rfl) (by rfl) (by omega)) (by rfl) ?_)
    | (refine s1_indexAddr ?_; refine sc_r (R_indexAddr (by rfl) (by rfl) (by omega)) (by rfl) ?_)
    | (refine s1_store ?_; (refine sc_w (by rfl) (W_store_el1 (by rfl) (by rfl) (by focus ((repeat (first | exact Rem.here | apply Rem.there)); done)) (by rfl) hli) (by rfl) ?_; rintro _ _ ⟨rfl, rfl⟩; rw [Int.toNat_natCast, hset]))
    | refine swl_nil ?_
    | refine sx_next ?_
    | refine sw_seq ?_
    | refine sw_region ?_
    | refine sw_block ?_
    | refine sx_block_normal ?_
    | refine sw_cond_pos (by rfl) (by first | assumption | omega) ?_
    | refine sw_skip ?_
    | fail)
        exact sx_back (k + 1) (by omega) (by omega) (subE.cons rfl (subE.cons rfl (subE.cons rfl (subE.cons rfl subE.nil)))) (by (repeat (first | exact Ent.refl _ | exact Ent.nil | (apply Ent.pick; focus ((repeat (first | exact Rem.here | apply Rem.there)); done)) | apply Ent.drop)))
      · obtain rfl : k = N := by omega
        rw [Nat.sub_self, List.replicate_zero, List.append_nil]
        repeat' (first
    | refine swl_op ?_
    | (refine s1_move ?_; refine sc_r (R_move (by rfl)) (by rfl) ?_)
    | (refine s1_assign ?_; refine sc_r (R_assign (by rfl)) (by rfl) ?_)
    | (refine s1_bin ?_; refine sc_r (R_lss (by rfl) (by rfl)) (by rfl) ?_)
    | refine swl_nil ?_
    | refine sx_next ?_
    | refine sw_seq ?_
    | refine sw_region ?_
    | refine sx_past_exit ?_
    | refine sx_block_here ?_
    | refine sw_cond_neg (by rfl) (by first | assumption | omega) ?_
    | refine sw_ret ?_
    | refine sw_exit ?_
    | fail)
        exact sx_ret_of (res2 rfl (ResOne.tmp rfl) (ResOne.tmp rfl)) _ ⟨_, rfl, rfl⟩ (by (repeat (first | exact Ent.refl _ | exact Ent.nil | (apply Ent.pick; focus ((repeat (first | exact Rem.here | apply Rem.there)); done)) | apply Ent.drop)))
    · rw [if_neg he]
      obtain rfl : e = 4 := hve.resolve_left he
      repeat' (first
    | refine swl_op ?_
    | (refine s1_move ?_; refine sc_r (R_move (by rfl)) (by rfl) ?_)
    | (refine s1_load ?_; refine sc_r (L_load_all (by rfl) (by infer_instance) (by rfl)) (by rfl) ?_)
    | (refine s1_assign ?_; refine sc_r (R_assign (by rfl)) (by rfl) ?_)
    | (refine s1_pick ?_; refine sc_r (R_pick_f (by rfl) (by rfl)) (by rfl) ?_)
    | (refine s1_bin ?_; first | refine sc_r (R_lss (by rfl) (by rfl)) (by rfl) ?_ | refine sc_r (R_gtr (by rfl) (by rfl)) (by rfl) ?_ | refine sc_r (R_neq (by rfl) (by rfl)) (by rfl) ?_)
    | (refine s1_call ?_; first | (refine sc_c (by rfl) (C_call (by rfl) (by infer_instance) (by rfl) (by rfl) (cM _)) (by rfl) ?_; rintro _ _ ⟨rfl, rfl⟩) | (refine sc_c (by rfl) (C_call (by rfl) (by infer_instance) (by rfl) (by rfl) (cV _)) (by rfl) ?_; rintro _ _ ⟨rfl, rfl⟩))
    | (refine s1_box ?_; (refine sc_w (by rfl) (W_boxA (by rfl)) (by rfl) ?_; rintro _ _ ⟨_, rfl, rfl⟩))
    | (refine s1_any ?_; first | refine sc_r (R_not (by rfl)) (by rfl) ?_ | refine sc_r (R_extract (by rfl) (by rfl)) (by rfl) ?_)
    | refine swl_nil ?_
    | refine sx_next ?_
    | refine sw_seq ?_
    | refine sw_region ?_
    | refine swl_g_on (by rfl) (by rfl) ?_
    | refine swl_g_neg (by rfl) (by rfl) (by first | assumption | omega) ?_
    | refine sx_past_ret ?_
    | refine sw_cond_true (by rfl) ?_
    | refine sw_cond_neg (by rfl) (by first | assumption | omega) ?_
    | refine sw_ret ?_
    | refine sw_skip ?_
    | fail)
      exact sx_ret_of (res2 rfl (ResOne.tmp rfl) (ResOne.tmp rfl)) _ ⟨_, rfl, rfl⟩ (by (repeat (first | apply Ent.drop | exact Ent.vec_nil)))
  · rw [if_neg hA]
    cases mg
    · repeat' (first
    | refine swl_op ?_
    | (refine s1_move ?_; refine sc_r (R_move (by rfl)) (by rfl) ?_)
    | (refine s1_load ?_; refine sc_r (L_load_all (by rfl) (by infer_instance) (by rfl)) (by rfl) ?_)
    | (refine s1_assign ?_; refine sc_r (R_assign (by rfl)) (by rfl) ?_)
    | (refine s1_pick ?_; refine sc_r (R_pick_t (by rfl) (by rfl)) (by rfl) ?_)
    | (refine s1_call ?_; (refine sc_c (by rfl) (C_call (by rfl) (by infer_instance) (by rfl) (by rfl) (cM _)) (by rfl) ?_; rintro _ _ ⟨rfl, rfl⟩))
    | (refine s1_box ?_; (refine sc_w (by rfl) (W_boxA (by rfl)) (by rfl) ?_; rintro _ _ ⟨_, rfl, rfl⟩))
    | (refine s1_any ?_; refine sc_r (R_not (by rfl)) (by rfl) ?_)
    | refine swl_nil ?_
    | refine sx_next ?_
    | refine sw_seq ?_
    | refine sw_region ?_
    | refine swl_g_off (by rfl) (by rfl) (by rfl) (by rfl) ?_
    | refine sx_past_ret ?_
    | refine sw_cond_true (by rfl) ?_
    | refine sw_ret ?_
    | fail)
      exact sx_ret_of (res2 rfl (ResOne.tmp rfl) (ResOne.tmp rfl)) _ ⟨_, rfl, rfl⟩ (by (repeat (first | apply Ent.drop | exact Ent.vec_nil)))
    · have hn : n < 1 ∨ 13 < n := by
        have : ¬ (1 ≤ n ∧ n ≤ 13) := fun h => hA ⟨rfl, h⟩
        omega
      rcases hn with hn | hn
      all_goals
        repeat' (first
    | refine swl_op ?_
    | (refine s1_move ?_; refine sc_r (R_move (by rfl)) (by rfl) ?_)
    | (refine s1_load ?_; refine sc_r (L_load_all (by rfl) (by infer_instance) (by rfl)) (by rfl) ?_)
    | (refine s1_assign ?_; refine sc_r (R_assign (by rfl)) (by rfl) ?_)
    | (refine s1_pick ?_; first | refine sc_r (R_pick_t (by rfl) (by rfl)) (by rfl) ?_ | refine sc_r (R_pick_f (by rfl) (by rfl)) (by rfl) ?_)
    | (refine s1_bin ?_; first | refine sc_r (R_lss (by rfl) (by rfl)) (by rfl) ?_ | refine sc_r (R_gtr (by rfl) (by rfl)) (by rfl) ?_)
    | (refine s1_call ?_; (refine sc_c (by rfl) (C_call (by rfl) (by infer_instance) (by rfl) (by rfl) (cM _)) (by rfl) ?_; rintro _ _ ⟨rfl, rfl⟩))
    | (refine s1_box ?_; (refine sc_w (by rfl) (W_boxA (by rfl)) (by rfl) ?_; rintro _ _ ⟨_, rfl, rfl⟩))
    | (refine s1_any ?_; refine sc_r (R_not (by rfl)) (by rfl) ?_)
    | refine swl_nil ?_
    | refine sx_next ?_
    | refine sw_seq ?_
    | refine sw_region ?_
    | refine swl_g_on (by rfl) (by rfl) ?_
    | refine swl_g_off (by rfl) (by rfl) (by rfl) (by rfl) ?_
    | refine swl_g_pos (by rfl) (by rfl) (by first | assumption | omega) ?_
    | refine swl_g_neg (by rfl) (by rfl) (by first | assumption | omega) ?_
    | refine sx_past_ret ?_
    | refine sw_cond_true (by rfl) ?_
    | refine sw_cond_pos (by rfl) (by first | assumption | omega) ?_
    | refine sw_ret ?_
    | fail)
        exact sx_ret_of (res2 rfl (ResOne.tmp rfl) (ResOne.tmp rfl)) _ ⟨_, rfl, rfl⟩ (by (repeat (first | apply Ent.drop | exact Ent.vec_nil)))
end Go.Proofs.YtjdnflhejfcgdaaDoor

/-
  OWN BASE, PART 22: strings of numbers.
-/
namespace Go.SL
open Go
theorem strOfNums_append (a b : List Int) : strOfNums a ++ strOfNums b = strOfNums (a ++ b) := by
  apply ByteArray.ext
  simp [strOfNums]
theorem strOfNums_toList (a : List Int) : (strOfNums a).data.toList = a.map fun n => UInt8.ofNat n.toNat := by simp [strOfNums]
theorem strOfNums_inj {a b : List Int} (ha : ∀ z ∈ a, 0 ≤ z ∧ z ≤ 255) (hb : ∀ z ∈ b, 0 ≤ z ∧ z ≤ 255) (h : strOfNums a = strOfNums b) : a = b := by
  have h1 : a.map (fun n => UInt8.ofNat n.toNat) = b.map fun n => UInt8.ofNat n.toNat := by rw [← strOfNums_toList, h, strOfNums_toList]
  clear h
  induction a generalizing b with
  | nil => cases b with
    | nil => rfl
    | cons y r => simp at h1
  | cons x l ih => cases b with
    | nil => simp at h1
    | cons y r =>
      simp only [List.map_cons, List.cons.injEq] at h1
      have hx := ha x (by simp)
      have hy := hb y (by simp)
      have h2 := congrArg UInt8.toNat h1.1
      simp only [UInt8.toNat_ofNat'] at h2
      rw [Nat.mod_eq_of_lt (by omega), Nat.mod_eq_of_lt (by omega)] at h2
      obtain rfl : x = y := by omega
      rw [ih (fun z hz => ha z (by simp [hz])) (fun z hz => hb z (by simp [hz])) h1.2]
section
variable {P : Program} {w0 : World} {nt : Cx} {L : List HP} {env : Env} {ty : TypeId}
theorem R_catS {t t' : TypeId} {x y : Operand} {s u : ByteArray} {a b : List Int} (hx : evO env x = some (.string s)) (hy : evO env y = some (.string u)) (hs : s = strOfNums a) (hu : u = strOfNums b) (h : a.length + b.length ≤ 9223372036854775807) : OpR P w0 nt L env (.binOp .add t x y t') ty (.string (strOfNums (a ++ b))) := .mk fun o ho _ w hr _ _ => by
  subst hs hu
  have h1 : ¬ (((strOfNums a).size + (strOfNums b).size : Nat) : Int) > IntKind.i64.max := by
    rw [strOfNums_size, strOfNums_size, show IntKind.i64.max = 9223372036854775807 from by decide]
    omega
  simp only [execOp, ho, hr.eval hx, hr.eval hy, eqGuard_at_string, Go.binOp, Op.stringOp, if_neg h1, Sem.run_bind, Sem.run_pure, Result.andThen_ok, strOfNums_append]
theorem R_indexS {t : TypeId} {x i : Operand} {l : List Int} {j : Int} {k : IntKind} [hu : Und P t .string] (hx : evO env x = some (.string (strOfNums l))) (hi : evO env i = some (.int k j)) (h : 0 ≤ j ∧ j.toNat < l.length) (hb : ∀ z ∈ l, 0 ≤ z ∧ z ≤ 255) : OpR P w0 nt L env (.index t x i) ty (.int .u8 (l.getD j.toNat 0)) := .mk fun o ho _ a hr w _ => by
  have h2 : (strOfNums l)[j.toNat]? = some (UInt8.ofNat (l.getD j.toNat 0).toNat) := by
    rw [getElem?_pos (strOfNums l) j.toNat (by rw [strOfNums_size]; exact h.2)]
    congr 1
    show (strOfNums l).data[j.toNat]'_ = _
    simp [strOfNums, h.2]
  have h3 := hb _ (List.getElem_mem h.2)
  have h4 : ((UInt8.ofNat (l.getD j.toNat 0).toNat).toNat : Int) = l.getD j.toNat 0 := by
    rw [List.getD_eq_getElem?_getD, List.getElem?_eq_getElem h.2, Option.getD_some, UInt8.toNat_ofNat', Nat.mod_eq_of_lt (by omega)]
    omega
  simp only [execOp, ho, Instr.index, hr.eval hx, hr.eval hi, asIntOf, run_und, Sem.run_bind, Sem.run_pure, Result.andThen_ok, if_pos h.1, h2, h4]
theorem R_len_S {t : TypeId} {x : Operand} {l : List Int} [hu : Und P t .string] (hx : evO env x = some (.string (strOfNums l))) : OpR P w0 nt L env (.call ⟨.builtin .len, #[x], #[t]⟩) ty (.int .i64 l.length) := by
  have := R_len_str (P := P) (w0 := w0) (nt := nt) (L := L) (ty := ty) (t := t) hx
  rwa [strOfNums_size] at this
theorem R_quok {t t' : TypeId} {x y : Operand} {k : IntKind} {a b : Int} (hx : evO env x = some (.int k a)) (hy : evO env y = some (.int k b)) (h : 0 ≤ a ∧ 0 < b) (hw : k.wrap (a / b) = a / b) : OpR P w0 nt L env (.binOp .quo t x y t') ty (.int k (a / b)) := .mk fun o ho _ s hr w _ => by
  have h1 : b ≠ 0 := by omega
  have h2 : a.tdiv b = a / b := Int.tdiv_eq_ediv_of_nonneg h.1
  simp [execOp, ho, hr.eval hx, hr.eval hy, eqGuard_quo, eqGuard_rem, Go.binOp, Op.intDiv, h1, h2, hw]
theorem R_quo32 {t t' : TypeId} {x y : Operand} {a b : Int} (hx : evO env x = some (.int .u32 a)) (hy : evO env y = some (.int .u32 b)) (h : 0 ≤ a ∧ a ≤ 4294967295 ∧ 0 < b) : OpR P w0 nt L env (.binOp .quo t x y t') ty (.int .u32 (a / b)) :=
  R_quok hx hy ⟨h.1, h.2.2⟩ (wrap_u32_of ⟨Int.ediv_nonneg h.1 (by omega), Int.le_trans (Int.ediv_le_self b h.1) h.2.1⟩)
theorem R_quou64 {t t' : TypeId} {x y : Operand} {a b : Int} (hx : evO env x = some (.int .u64 a)) (hy : evO env y = some (.int .u64 b)) (h : 0 ≤ a ∧ a ≤ 18446744073709551615 ∧ 0 < b) : OpR P w0 nt L env (.binOp .quo t x y t') ty (.int .u64 (a / b)) :=
  R_quok hx hy ⟨h.1, h.2.2⟩ (wrap_u64_of ⟨Int.ediv_nonneg h.1 (by omega), Int.le_trans (Int.ediv_le_self b h.1) h.2.1⟩)
theorem R_subk {t t' : TypeId} {x y : Operand} {k : IntKind} {a b z : Int} (hx : evO env x = some (.int k a)) (hy : evO env y = some (.int k b)) (h : k.wrap (a - b) = z) : OpR P w0 nt L env (.binOp .sub t x y t') ty (.int k z) := by
  subst h; exact R_sub hx hy
end
end Go.SL

/-
  The document's own answers: checksums and numbers as texts.
-/
namespace Go.Proofs.YtjdnflhejfcgdaaDoor
open Go Go.SL Go.Proofs

def refStep (w : Int) : Int := if w % 2 = 1 then bXor .u32 (w / 2) 2197175160 else w / 2
def refSteps : Nat → Int → Int
  | 0, w => w
  | n + 1, w => refStep (refSteps n w)
theorem refStep_bd {w : Int} (h : 0 ≤ w ∧ w ≤ 4294967295) : 0 ≤ refStep w ∧ refStep w ≤ 4294967295 := by
  unfold refStep
  split
  · exact wrap_u32_bd _
  · omega
theorem refSteps_bd {w : Int} (h : 0 ≤ w ∧ w ≤ 4294967295) : ∀ n, 0 ≤ refSteps n w ∧ refSteps n w ≤ 4294967295
  | 0 => h
  | n + 1 => refStep_bd (refSteps_bd h n)

theorem ref2_Steps (w : Int) (n : Nat) (hn : n ≤ 1000) (hw : 0 ≤ w ∧ w ≤ 4294967295) {L : List HP} : Tr Tryd.prog 95 [.int .u32 w, .int .i64 n].toArray L (fun v L' => v = .int .u32 (refSteps n w) ∧ L = L') := by
  refine tr_enter Tryd.func95 rfl Tryd.ntmps95 rfl fun w0 => ?_
  repeat' (first
    | refine swl_op ?_
    | (refine s1_assign ?_; refine sc_r (R_assign (by rfl)) (by rfl) ?_)
    | refine swl_nil ?_
    | refine sx_next ?_
    | refine sw_seq ?_
    | refine sw_region ?_
    | refine sw_block ?_
    | fail)
  refine sw_loop (γ := Nat × Int) (fun g => n - g.1) (fun g => [(0, .int .u32 g.2), (1, .int .i64 n), (5, .int .i64 g.1)]) (fun _ => L) (fun g => g.1 ≤ n ∧ g.2 = refSteps g.1 w) (0, w) ⟨by simp, rfl⟩
    (subE.cons rfl (subE.cons rfl (subE.cons rfl subE.nil))) (by (repeat (first | exact Ent.refl _ | exact Ent.nil | (apply Ent.pick; focus ((repeat (first | exact Rem.here | apply Rem.there)); done)) | apply Ent.drop))) ?_
  rintro ⟨i, u⟩ ⟨hi, hu⟩
  dsimp only at hi hu ⊢
  have hb := refSteps_bd hw i
  rw [← hu] at hb
  by_cases hlt : i < n
  · by_cases hp : u % 2 = 1
    · have hs : refSteps (i + 1) w = bXor .u32 (u / 2) 2197175160 := by rw [refSteps, ← hu, refStep, if_pos hp]
      repeat' (first
    | refine swl_op ?_
    | (refine s1_move ?_; refine sc_r (R_move (by rfl)) (by rfl) ?_)
    | (refine s1_assign ?_; refine sc_r (R_assign (by rfl)) (by rfl) ?_)
    | (refine s1_bin ?_; first | refine sc_r (R_lss (by rfl) (by rfl)) (by rfl) ?_ | refine sc_r (R_add64 (by rfl) (by rfl) (by omega)) (by rfl) ?_ | refine sc_r (R_eql (by rfl) (by rfl)) (by rfl) ?_ | refine sc_r (R_rem (by rfl) (by rfl) (by omega)) (by rfl) ?_ | refine sc_r (R_quo32 (by rfl) (by rfl) (by omega)) (by rfl) ?_ | refine sc_r (R_xor (by rfl) (by rfl)) (by rfl) ?_)
    | refine swl_nil ?_
    | refine sx_next ?_
    | refine sw_seq ?_
    | refine sw_region ?_
    | refine sw_block ?_
    | refine sx_block_normal ?_
    | refine sw_cond_pos (by rfl) (by first | assumption | omega) ?_
    | refine sw_skip ?_
    | fail)
      exact sx_back (i + 1, _) (by simp only; omega) ⟨by simp only; omega, hs.symm⟩ (subE.cons rfl (subE.cons rfl (subE.cons rfl subE.nil))) (by (repeat (first | exact Ent.refl _ | exact Ent.nil | (apply Ent.pick; focus ((repeat (first | exact Rem.here | apply Rem.there)); done)) | apply Ent.drop)))
    · have hs : refSteps (i + 1) w = u / 2 := by rw [refSteps, ← hu, refStep, if_neg hp]
      repeat' (first
    | refine swl_op ?_
    | (refine s1_move ?_; refine sc_r (R_move (by rfl)) (by rfl) ?_)
    | (refine s1_assign ?_; refine sc_r (R_assign (by rfl)) (by rfl) ?_)
    | (refine s1_bin ?_; first | refine sc_r (R_lss (by rfl) (by rfl)) (by rfl) ?_ | refine sc_r (R_add64 (by rfl) (by rfl) (by omega)) (by rfl) ?_ | refine sc_r (R_eql (by rfl) (by rfl)) (by rfl) ?_ | refine sc_r (R_rem (by rfl) (by rfl) (by omega)) (by rfl) ?_ | refine sc_r (R_quo32 (by rfl) (by rfl) (by omega)) (by rfl) ?_)
    | refine swl_nil ?_
    | refine sx_next ?_
    | refine sw_seq ?_
    | refine sw_region ?_
    | refine sw_block ?_
    | refine sx_block_normal ?_
    | refine sw_cond_pos (by rfl) (by first | assumption | omega) ?_
    | refine sw_cond_neg (by rfl) (by first | assumption | omega) ?_
    | refine sw_skip ?_
    | fail)
      exact sx_back (i + 1, _) (by simp only; omega) ⟨by simp only; omega, hs.symm⟩ (subE.cons rfl (subE.cons rfl (subE.cons rfl subE.nil))) (by (repeat (first | exact Ent.refl _ | exact Ent.nil | (apply Ent.pick; focus ((repeat (first | exact Rem.here | apply Rem.there)); done)) | apply Ent.drop)))
  · obtain rfl : i = n := by omega
    repeat' (first
    | refine swl_op ?_
    | (refine s1_move ?_; refine sc_r (R_move (by rfl)) (by rfl) ?_)
    | (refine s1_assign ?_; refine sc_r (R_assign (by rfl)) (by rfl) ?_)
    | (refine s1_bin ?_; refine sc_r (R_lss (by rfl) (by rfl)) (by rfl) ?_)
    | refine swl_nil ?_
    | refine sx_next ?_
    | refine sw_seq ?_
    | refine sw_region ?_
    | refine sx_past_exit ?_
    | refine sx_block_here ?_
    | refine sw_cond_neg (by rfl) (by first | assumption | omega) ?_
    | refine sw_ret ?_
    | refine sw_exit ?_
    | fail)
    exact sx_ret_of (res1 rfl (ResOne.tmp rfl)) _ ⟨by rw [hu], rfl⟩ (by (repeat (first | exact Ent.refl _ | exact Ent.nil | (apply Ent.pick; focus ((repeat (first | exact Rem.here | apply Rem.there)); done)) | apply Ent.drop)))

def refW (l : List Int) : Int := l.foldl (fun w z => refSteps 8 (bXor .u32 w z)) 4294967295
def refSum (l : List Int) : Int := 4294967295 - refW l
theorem bXor32_bd (a b : Int) : 0 ≤ bXor .u32 a b ∧ bXor .u32 a b ≤ 4294967295 := wrap_u32_bd _
theorem refW_snoc (l : List Int) (z : Int) : refW (l ++ [z]) = refSteps 8 (bXor .u32 (refW l) z) := by simp [refW]
theorem refW_bd (l : List Int) : 0 ≤ refW l ∧ refW l ≤ 4294967295 := by
  rcases List.eq_nil_or_concat l with rfl | ⟨r, z, rfl⟩
  · simp [refW]
  · rw [List.concat_eq_append, refW_snoc]; exact refSteps_bd (bXor32_bd _ _) 8
theorem refSum_bd (l : List Int) : 0 ≤ refSum l ∧ refSum l ≤ 4294967295 := by have := refW_bd l; unfold refSum; omega

theorem ref2_Sum (l : List Int) (hl : l.length ≤ 1000000) (hb : ∀ z ∈ l, 0 ≤ z ∧ z ≤ 255) {L : List HP} : Tr Tryd.prog 61 [.string (strOfNums l)].toArray L (fun v L' => v = .int .u32 (refSum l) ∧ L = L') := by
  refine tr_enter Tryd.func61 rfl Tryd.ntmps61 rfl fun w0 => ?_
  repeat' (first
    | refine swl_op ?_
    | (refine s1_assign ?_; refine sc_r (R_assign (by rfl)) (by rfl) ?_)
    | refine swl_nil ?_
    | refine sx_next ?_
    | refine sw_seq ?_
    | refine sw_region ?_
    | refine sw_block ?_
    | fail)
  refine sw_loop (γ := Nat × Int) (fun g => l.length - g.1) (fun g => [(0, .string (strOfNums l)), (3, .int .u32 g.2), (4, .int .i64 g.1)]) (fun _ => L) (fun g => g.1 ≤ l.length ∧ g.2 = refW (l.take g.1)) (0, 4294967295) ⟨by simp, rfl⟩
    (subE.cons rfl (subE.cons rfl (subE.cons rfl subE.nil))) (by (repeat (first | exact Ent.refl _ | exact Ent.nil | (apply Ent.pick; focus ((repeat (first | exact Rem.here | apply Rem.there)); done)) | apply Ent.drop))) ?_
  rintro ⟨i, u⟩ ⟨hi, hu⟩
  dsimp only at hi hu ⊢
  by_cases hlt : i < l.length
  · have hz := hb _ (List.getElem_mem hlt)
    have hg : l.getD (i : Int).toNat 0 = l[i] := by simp [hlt]
    have hw : IntKind.u32.wrap (l.getD (i : Int).toNat 0) = l[i] := by rw [hg]; exact wrap_u32_of (by omega)
    have hs : refW (l.take (i + 1)) = refSteps 8 (bXor .u32 u l[i]) := by rw [List.take_succ_eq_append_getElem hlt, refW_snoc, hu]
    repeat' (first
    | refine swl_op ?_
    | (refine s1_move ?_; refine sc_r (R_move (by rfl)) (by rfl) ?_)
    | (refine s1_assign ?_; refine sc_r (R_assign (by rfl)) (by rfl) ?_)
    | (refine s1_bin ?_; first | refine sc_r (R_lss (by rfl) (by rfl)) (by rfl) ?_ | refine sc_r (R_add64 (by rfl) (by rfl) (by omega)) (by rfl) ?_ | refine sc_r (R_xor (by rfl) (by rfl)) (by rfl) ?_)
    | (refine s1_call ?_; first | refine sc_r (R_len_S (by rfl)) (by rfl) ?_ | (refine sc_c (by rfl) (C_call (by rfl) (by infer_instance) (by rfl) (by rfl) (ref2_Steps _ 8 (by omega) (bXor32_bd _ _))) (by rfl) ?_; rintro _ _ ⟨rfl, rfl⟩))
    | (refine s1_conv ?_; refine sc_r (R_convk (by rfl) hw) (by rfl) ?_)
    | (refine s1_any ?_; refine sc_r (R_indexS (by rfl) (by rfl) (by omega) hb) (by rfl) ?_)
    | refine swl_nil ?_
    | refine sx_next ?_
    | refine sw_seq ?_
    | refine sw_region ?_
    | refine sw_block ?_
    | refine sx_block_normal ?_
    | refine sw_cond_pos (by rfl) (by first | assumption | omega) ?_
    | refine sw_skip ?_
    | fail)
    exact sx_back (i + 1, _) (by simp only; omega) ⟨by simp only; omega, hs.symm⟩ (subE.cons rfl (subE.cons rfl (subE.cons rfl subE.nil))) (by (repeat (first | exact Ent.refl _ | exact Ent.nil | (apply Ent.pick; focus ((repeat (first | exact Rem.here | apply Rem.there)); done)) | apply Ent.drop)))
  · obtain rfl : i = l.length := by omega
    rw [List.take_length] at hu
    have hbd := refSum_bd l
    have hsub : IntKind.u32.wrap (4294967295 - u) = refSum l := by rw [hu]; exact wrap_u32_of hbd
    repeat' (first
    | refine swl_op ?_
    | (refine s1_move ?_; refine sc_r (R_move (by rfl)) (by rfl) ?_)
    | (refine s1_assign ?_; refine sc_r (R_assign (by rfl)) (by rfl) ?_)
    | (refine s1_bin ?_; first | refine sc_r (R_lss (by rfl) (by rfl)) (by rfl) ?_ | refine sc_r (R_subk (by rfl) (by rfl) hsub) (by rfl) ?_)
    | (refine s1_call ?_; refine sc_r (R_len_S (by rfl)) (by rfl) ?_)
    | refine swl_nil ?_
    | refine sx_next ?_
    | refine sw_seq ?_
    | refine sw_region ?_
    | refine sx_past_exit ?_
    | refine sx_block_here ?_
    | refine sw_cond_neg (by rfl) (by first | assumption | omega) ?_
    | refine sw_ret ?_
    | refine sw_exit ?_
    | fail)
    exact sx_ret_of (res1 rfl (ResOne.tmp rfl)) _ ⟨rfl, rfl⟩ (by (repeat (first | exact Ent.refl _ | exact Ent.nil | (apply Ent.pick; focus ((repeat (first | exact Rem.here | apply Rem.there)); done)) | apply Ent.drop)))

def putR (v : Int) : Nat → Int × List Int
  | 0 => (v, [])
  | i + 1 => ((putR v i).1 / 256, ((putR v i).1 % 256) :: (putR v i).2)
theorem putR_bd {v : Int} (h : 0 ≤ v ∧ v ≤ 18446744073709551615) : ∀ i, 0 ≤ (putR v i).1 ∧ (putR v i).1 ≤ 18446744073709551615
  | 0 => h
  | i + 1 => by have := putR_bd h i; simp only [putR]; omega
theorem putR_len (v : Int) : ∀ i, (putR v i).2.length = i
  | 0 => rfl
  | i + 1 => by simp [putR, putR_len v i]
theorem putR_by {v : Int} : ∀ i, ∀ z ∈ (putR v i).2, 0 ≤ z ∧ z ≤ 255
  | 0, z, hz => by simp [putR] at hz
  | i + 1, z, hz => by
    simp only [putR, List.mem_cons] at hz
    rcases hz with rfl | hz
    · omega
    · exact putR_by i z hz

theorem ref1_Put (v : Int) (n : Nat) (hn : n ≤ 8) (hv : 0 ≤ v ∧ v ≤ 18446744073709551615) {L : List HP} : Tr Tryd.prog 102 [.int .u64 v, .int .i64 n].toArray L (fun r L' => r = .tuple #[.string (strOfNums (putR v n).2), .bool (decide ((putR v n).1 = 0))] ∧ L = L') := by
  refine tr_enter Tryd.func102 rfl Tryd.ntmps102 rfl fun w0 => ?_
  repeat' (first
    | refine swl_op ?_
    | (refine s1_assign ?_; refine sc_r (R_assign (by rfl)) (by rfl) ?_)
    | refine swl_nil ?_
    | refine sx_next ?_
    | refine sw_seq ?_
    | refine sw_region ?_
    | refine sw_block ?_
    | fail)
  refine sw_loop (γ := Nat) (fun g => n - g) (fun g => [(0, .int .u64 (putR v g).1), (1, .int .i64 n), (6, .string (strOfNums (putR v g).2)), (7, .int .i64 g)]) (fun _ => L) (fun g => g ≤ n) 0 (by omega)
    (subE.cons rfl (subE.cons rfl (subE.cons rfl (subE.cons rfl subE.nil)))) (by (repeat (first | exact Ent.refl _ | exact Ent.nil | (apply Ent.pick; focus ((repeat (first | exact Rem.here | apply Rem.there)); done)) | apply Ent.drop))) ?_
  intro i hi
  dsimp only at hi ⊢
  have hb := putR_bd hv i
  have hl := putR_len v i
  by_cases hlt : i < n
  · have hw : IntKind.u8.wrap ((putR v i).1 % 256) = (putR v i).1 % 256 := wrap_u8_of (by omega)
    repeat' (first
    | refine swl_op ?_
    | (refine s1_move ?_; refine sc_r (R_move (by rfl)) (by rfl) ?_)
    | (refine s1_assign ?_; refine sc_r (R_assign (by rfl)) (by rfl) ?_)
    | (refine s1_bin ?_; first | refine sc_r (R_lss (by rfl) (by rfl)) (by rfl) ?_ | refine sc_r (R_add64 (by rfl) (by rfl) (by omega)) (by rfl) ?_ | refine sc_r (R_rem (by rfl) (by rfl) (by omega)) (by rfl) ?_ | refine sc_r (R_quou64 (by rfl) (by rfl) (by omega)) (by rfl) ?_ | refine sc_r (R_catS (a := [(putR v i).1 % 256]) (b := (putR v i).2) (by rfl) (by rfl) (by rfl) (by rfl) (by simp only [List.length_singleton]; omega)) (by rfl) ?_)
    | (refine s1_conv ?_; first | refine sc_r (R_convk (by rfl) hw) (by rfl) ?_ | refine sc_r (R_bytes_string (l := [(putR v i).1 % 256]) (by rfl) (SlC.ofVec (els := [(putR v i).1 % 256].map u8c) (hn := by infer_instance) (hl := ⟨rfl⟩))) (by rfl) ?_)
    | (refine s1_any ?_; (refine sc_w (by rfl) (W_buildSliceV (by rfl) (by rfl) (by rfl) (by rfl) (by rfl) (by rfl) (by rfl)) (by rfl) ?_; rintro _ _ ⟨_, rfl, rfl, _, _⟩))
    | refine swl_nil ?_
    | refine sx_next ?_
    | refine sw_seq ?_
    | refine sw_region ?_
    | refine sw_block ?_
    | refine sx_block_normal ?_
    | refine sw_cond_pos (by rfl) (by first | assumption | omega) ?_
    | refine sw_skip ?_
    | fail)
    exact sx_back (i + 1) (by omega) (by omega) (subE.cons rfl (subE.cons rfl (subE.cons rfl (subE.cons rfl subE.nil)))) (by (repeat (first | exact Ent.refl _ | exact Ent.nil | (apply Ent.pick; focus ((repeat (first | exact Rem.here | apply Rem.there)); done)) | apply Ent.drop)))
  · obtain rfl : i = n := by omega
    repeat' (first
    | refine swl_op ?_
    | (refine s1_move ?_; refine sc_r (R_move (by rfl)) (by rfl) ?_)
    | (refine s1_assign ?_; refine sc_r (R_assign (by rfl)) (by rfl) ?_)
    | (refine s1_bin ?_; first | refine sc_r (R_lss (by rfl) (by rfl)) (by rfl) ?_ | refine sc_r (R_eql (by rfl) (by rfl)) (by rfl) ?_)
    | refine swl_nil ?_
    | refine sx_next ?_
    | refine sw_seq ?_
    | refine sw_region ?_
    | refine sx_past_exit ?_
    | refine sx_block_here ?_
    | refine sw_cond_neg (by rfl) (by first | assumption | omega) ?_
    | refine sw_ret ?_
    | refine sw_exit ?_
    | fail)
    exact sx_ret_of (res2 rfl (ResOne.tmp rfl) (ResOne.tmp rfl)) _ ⟨rfl, rfl⟩ (by (repeat (first | exact Ent.refl _ | exact Ent.nil | (apply Ent.pick; focus ((repeat (first | exact Rem.here | apply Rem.there)); done)) | apply Ent.drop)))
theorem ref1_Of (v : Int) (n : Nat) (hn : n ≤ 8) (hv : 0 ≤ v ∧ v ≤ 18446744073709551615) {L : List HP} : Tr Tryd.prog 94 [.int .u64 v, .int .i64 n].toArray L (fun r L' => r = .string (strOfNums (putR v n).2) ∧ L = L') := by
  refine tr_enter Tryd.func94 rfl Tryd.ntmps94 rfl fun w0 => ?_
  repeat' (first
    | refine swl_op ?_
    | (refine s1_move ?_; refine sc_r (R_move (by rfl)) (by rfl) ?_)
    | (refine s1_assign ?_; refine sc_r (R_assign (by rfl)) (by rfl) ?_)
    | (refine s1_call ?_; (refine sc_c (by rfl) (C_call (by rfl) (by infer_instance) (by rfl) (by rfl) (ref1_Put v n hn hv)) (by rfl) ?_; rintro _ _ ⟨rfl, rfl⟩))
    | (refine s1_any ?_; refine sc_r (R_extract (by rfl) (by rfl)) (by rfl) ?_)
    | refine swl_nil ?_
    | refine sx_next ?_
    | refine sw_seq ?_
    | refine sw_region ?_
    | refine sw_ret ?_
    | fail)
  exact sx_ret_of (res1 rfl (ResOne.tmp rfl)) _ ⟨rfl, rfl⟩ (by (repeat (first | exact Ent.refl _ | exact Ent.nil | (apply Ent.pick; focus ((repeat (first | exact Rem.here | apply Rem.there)); done)) | apply Ent.drop)))
end Go.Proofs.YtjdnflhejfcgdaaDoor

/-
  The document's own answers: sealed texts, super blocks, labels.
-/
namespace Go.Proofs.YtjdnflhejfcgdaaDoor
open Go Go.SL Go.Proofs

def padR (l : List Int) : List Int := l ++ List.replicate (124 - l.length) 0
def sum4 (n : Int) : List Int := [n % 256, n / 256 % 256, n / 65536 % 256, n / 16777216]
def sealR (l : List Int) : List Int := padR l ++ sum4 (refSum (padR l))
theorem sum4_by {n : Int} (h : 0 ≤ n ∧ n ≤ 4294967295) : ∀ z ∈ sum4 n, 0 ≤ z ∧ z ≤ 255 := by
  intro z hz
  simp only [sum4, List.mem_cons, List.not_mem_nil, or_false] at hz
  rcases hz with rfl | rfl | rfl | rfl <;> omega
theorem padR_by {l : List Int} (hb : ∀ z ∈ l, 0 ≤ z ∧ z ≤ 255) : ∀ z ∈ padR l, 0 ≤ z ∧ z ≤ 255 := by
  intro z hz
  rcases List.mem_append.1 hz with hz | hz
  · exact hb z hz
  · rw [(List.mem_replicate.1 hz).2]; omega
theorem sealR_by {l : List Int} (hb : ∀ z ∈ l, 0 ≤ z ∧ z ≤ 255) : ∀ z ∈ sealR l, 0 ≤ z ∧ z ≤ 255 := by
  intro z hz
  rcases List.mem_append.1 hz with hz | hz
  · exact padR_by hb z hz
  · exact sum4_by (refSum_bd _) z hz
theorem padR_len {l : List Int} (h : l.length ≤ 124) : (padR l).length = 124 := by simp [padR]; omega
theorem sealR_len {l : List Int} (h : l.length ≤ 124) : (sealR l).length = 128 := by simp [sealR, padR_len h, sum4]

set_option maxHeartbeats 1000000 in
set_option maxRecDepth 8000 in
theorem ref2_Seal (l : List Int) (hl : l.length ≤ 124) (hb : ∀ z ∈ l, 0 ≤ z ∧ z ≤ 255) {L : List HP} : Tr Tryd.prog 93 [.string (strOfNums l)].toArray L (fun r L' => r = .string (strOfNums (sealR l)) ∧ L = L') := by
  refine tr_enter Tryd.func93 rfl Tryd.ntmps93 rfl fun w0 => ?_
  repeat' (first
    | refine swl_op ?_
    | (refine s1_assign ?_; refine sc_r (R_assign (by rfl)) (by rfl) ?_)
    | refine swl_nil ?_
    | refine sx_next ?_
    | refine sw_seq ?_
    | refine sw_region ?_
    | refine sw_block ?_
    | fail)
  refine sw_loop (γ := Nat) (fun g => 124 - (l.length + g)) (fun g => [(0, .string (strOfNums (l ++ List.replicate g 0)))]) (fun _ => L) (fun g => l.length + g ≤ 124) 0 (by omega)
    (subE.cons (by simp only [List.replicate_zero, List.append_nil]; rfl) subE.nil) (by (repeat (first | exact Ent.refl _ | exact Ent.nil | (apply Ent.pick; focus ((repeat (first | exact Rem.here | apply Rem.there)); done)) | apply Ent.drop))) ?_
  intro k hk
  dsimp only at hk ⊢
  have hlen : (l ++ List.replicate k (0 : Int)).length = l.length + k := by simp
  by_cases hlt : l.length + k < 124
  · have hs : l ++ List.replicate k (0 : Int) ++ [0] = l ++ List.replicate (k + 1) 0 := by rw [List.append_assoc, List.replicate_succ']
    generalize l ++ List.replicate k (0 : Int) = q at *
    repeat' (first
    | refine swl_op ?_
    | (refine s1_move ?_; refine sc_r (R_move (by rfl)) (by rfl) ?_)
    | (refine s1_assign ?_; refine sc_r (R_assign (by rfl)) (by rfl) ?_)
    | (refine s1_bin ?_; first | refine sc_r (R_lss (by rfl) (by rfl)) (by rfl) ?_ | refine sc_r (R_catS (b := [0]) (by rfl) (by rfl) (by rfl) (by rfl) (by simp only [List.length_singleton]; omega)) (by rfl) ?_)
    | (refine s1_call ?_; refine sc_r (R_len_S (by rfl)) (by rfl) ?_)
    | refine swl_nil ?_
    | refine sx_next ?_
    | refine sw_seq ?_
    | refine sw_region ?_
    | refine sw_block ?_
    | refine sx_block_normal ?_
    | refine sw_cond_pos (by rfl) (by first | assumption | omega) ?_
    | refine sw_skip ?_
    | fail)
    exact sx_back (k + 1) (by omega) (by omega) (subE.cons (by rw [← hs]; rfl) subE.nil) (by (repeat (first | exact Ent.refl _ | exact Ent.nil | (apply Ent.pick; focus ((repeat (first | exact Rem.here | apply Rem.there)); done)) | apply Ent.drop)))
  · have hk' : k = 124 - l.length := by omega
    have hp : l ++ List.replicate k (0 : Int) = padR l := by rw [padR, ← hk']
    rw [hp] at hlen ⊢
    have hbd := refSum_bd (padR l)
    have hs : sealR l = padR l ++ sum4 (refSum (padR l)) := rfl
    have cS := fun (L : List HP) => ref2_Sum (padR l) (by omega) (padR_by hb) (L := L)
    rw [hs]
    generalize refSum (padR l) = n at *
    generalize padR l = q at *
    have w1 : IntKind.u8.wrap (n % 256) = n % 256 := wrap_u8_of (by omega)
    have w2 : IntKind.u8.wrap (n / 256 % 256) = n / 256 % 256 := wrap_u8_of (by omega)
    have w3 : IntKind.u8.wrap (n / 65536 % 256) = n / 65536 % 256 := wrap_u8_of (by omega)
    have w4 : IntKind.u8.wrap (n / 16777216) = n / 16777216 := wrap_u8_of (by omega)
    repeat' (first
    | refine swl_op ?_
    | (refine s1_move ?_; refine sc_r (R_move (by rfl)) (by rfl) ?_)
    | (refine s1_assign ?_; refine sc_r (R_assign (by rfl)) (by rfl) ?_)
    | (refine s1_bin ?_; first | refine sc_r (R_lss (by rfl) (by rfl)) (by rfl) ?_ | refine sc_r (R_rem (by rfl) (by rfl) (by omega)) (by rfl) ?_ | refine sc_r (R_quo32 (by rfl) (by rfl) (by omega)) (by rfl) ?_ | refine sc_r (R_catS (a := q) (b := sum4 n) (by rfl) (by rfl) (by rfl) (by rfl) (by simp only [sum4, List.length_cons, List.length_nil]; omega)) (by rfl) ?_)
    | (refine s1_call ?_; first | refine sc_r (R_len_S (by rfl)) (by rfl) ?_ | (refine sc_c (by rfl) (C_call (by rfl) (by infer_instance) (by rfl) (by rfl) (cS _)) (by rfl) ?_; rintro _ _ ⟨rfl, rfl⟩))
    | (refine s1_conv ?_; first | refine sc_r (R_convk (by rfl) w1) (by rfl) ?_ | refine sc_r (R_convk (by rfl) w2) (by rfl) ?_ | refine sc_r (R_convk (by rfl) w3) (by rfl) ?_ | refine sc_r (R_convk (by rfl) w4) (by rfl) ?_ | refine sc_r (R_bytes_string (l := sum4 n) (by rfl) (SlC.ofVec (els := (sum4 n).map u8c) (hn := by infer_instance) (hl := ⟨rfl⟩))) (by rfl) ?_)
    | (refine s1_any ?_; (refine sc_w (by rfl) (W_buildSliceV (by rfl) (by rfl) (by rfl) (by rfl) (by rfl) (by rfl) (by rfl)) (by rfl) ?_; rintro _ _ ⟨_, rfl, rfl, _, _⟩))
    | refine swl_nil ?_
    | refine sx_next ?_
    | refine sw_seq ?_
    | refine sw_region ?_
    | refine sx_past_exit ?_
    | refine sx_block_here ?_
    | refine sw_cond_neg (by rfl) (by first | assumption | omega) ?_
    | refine sw_ret ?_
    | refine sw_exit ?_
    | fail)
    exact sx_ret_of (res1 rfl (ResOne.tmp rfl)) _ ⟨rfl, rfl⟩ (by (repeat (first | exact Ent.refl _ | exact Ent.nil | (apply Ent.pick; focus ((repeat (first | exact Rem.here | apply Rem.there)); done)) | apply Ent.drop)))

def superR (g : Geo) : List Int := sealR ([104, 97, 121, 109] ++ (putR g.disk 2).2 ++ (putR g.lines 2).2 ++ (putR g.vols 1).2 ++ (putR g.segs 2).2)
def labelR (v n : Int) : List Int := sealR ([104, 118, 111, 108] ++ (putR v 1).2 ++ (putR n 4).2)
theorem by_append {a b : List Int} (ha : ∀ z ∈ a, 0 ≤ z ∧ z ≤ 255) (hb : ∀ z ∈ b, 0 ≤ z ∧ z ≤ 255) : ∀ z ∈ a ++ b, 0 ≤ z ∧ z ≤ 255 := fun z hz => (List.mem_append.1 hz).elim (ha z) (hb z)
theorem superB_by (g : Geo) : ∀ z ∈ [104, 97, 121, 109] ++ (putR g.disk 2).2 ++ (putR g.lines 2).2 ++ (putR g.vols 1).2 ++ (putR g.segs 2).2, 0 ≤ z ∧ z ≤ 255 :=
  by_append (by_append (by_append (by_append (by decide) (putR_by 2)) (putR_by 2)) (putR_by 1)) (putR_by 2)
theorem labelB_by (v n : Int) : ∀ z ∈ [104, 118, 111, 108] ++ (putR v 1).2 ++ (putR n 4).2, 0 ≤ z ∧ z ≤ 255 := by_append (by_append (by decide) (putR_by 1)) (putR_by 4)
theorem superR_len (g : Geo) : (superR g).length = 128 := sealR_len (by simp [putR_len])
theorem labelR_len (v n : Int) : (labelR v n).length = 128 := sealR_len (by simp [putR_len])
theorem superR_by (g : Geo) : ∀ z ∈ superR g, 0 ≤ z ∧ z ≤ 255 := sealR_by (superB_by g)
theorem labelR_by (v n : Int) : ∀ z ∈ labelR v n, 0 ≤ z ∧ z ≤ 255 := sealR_by (labelB_by v n)
theorem u64w {v : Int} (h : 0 ≤ v ∧ v ≤ 18446744073709551615) : IntKind.u64.wrap v = v := wrap_u64_of h

set_option maxHeartbeats 1000000 in
theorem ref5_Label (v n : Int) (hv : 0 ≤ v ∧ v ≤ 255) (hn : 0 ≤ n ∧ n ≤ 4294967295) {L : List HP} : Tr Tryd.prog 60 [.int .i64 v, .int .i64 n].toArray L (fun r L' => r = .string (strOfNums (labelR v n)) ∧ L = L') := by
  refine tr_enter Tryd.func60 rfl Tryd.ntmps60 rfl fun w0 => ?_
  have l1 := putR_len v 1
  have l2 := putR_len n 4
  have hR : labelR v n = sealR ([104, 118, 111, 108] ++ (putR v 1).2 ++ (putR n 4).2) := rfl
  have cS := fun (L : List HP) => ref2_Seal ([104, 118, 111, 108] ++ (putR v 1).2 ++ (putR n 4).2) (by simp [putR_len]) (labelB_by v n) (L := L)
  have c1 := fun (L : List HP) => ref1_Of v 1 (by omega) (by omega) (L := L)
  have c2 := fun (L : List HP) => ref1_Of n 4 (by omega) (by omega) (L := L)
  have k1 := u64w (v := v) (by omega)
  have k2 := u64w (v := n) (by omega)
  rw [hR]
  generalize sealR ([104, 118, 111, 108] ++ (putR v 1).2 ++ (putR n 4).2) = q at *
  generalize (putR v 1).2 = p1 at *
  generalize (putR n 4).2 = p2 at *
  repeat' (first
    | refine swl_op ?_
    | (refine s1_move ?_; refine sc_r (R_move (by rfl)) (by rfl) ?_)
    | (refine s1_assign ?_; refine sc_r (R_assign (by rfl)) (by rfl) ?_)
    | (refine s1_bin ?_; first | refine sc_r (R_catS (a := [104, 118, 111, 108]) (b := p1) (by rfl) (by rfl) (by rfl) (by rfl) (by simp only [List.length_cons, List.length_nil]; omega)) (by rfl) ?_ | refine sc_r (R_catS (a := [104, 118, 111, 108] ++ p1) (b := p2) (by rfl) (by rfl) (by rfl) (by rfl) (by simp only [List.length_append, List.length_cons, List.length_nil]; omega)) (by rfl) ?_)
    | (refine s1_call ?_; first | (refine sc_c (by rfl) (C_call (by rfl) (by infer_instance) (by rfl) (by rfl) (c1 _)) (by rfl) ?_; rintro _ _ ⟨rfl, rfl⟩) | (refine sc_c (by rfl) (C_call (by rfl) (by infer_instance) (by rfl) (by rfl) (c2 _)) (by rfl) ?_; rintro _ _ ⟨rfl, rfl⟩) | (refine sc_c (by rfl) (C_call (by rfl) (by infer_instance) (by rfl) (by rfl) (cS _)) (by rfl) ?_; rintro _ _ ⟨rfl, rfl⟩))
    | (refine s1_conv ?_; first | refine sc_r (R_convk (by rfl) k1) (by rfl) ?_ | refine sc_r (R_convk (by rfl) k2) (by rfl) ?_)
    | refine swl_nil ?_
    | refine sx_next ?_
    | refine sw_seq ?_
    | refine sw_region ?_
    | refine sw_ret ?_
    | fail)
  exact sx_ret_of (res1 rfl (ResOne.tmp rfl)) _ ⟨rfl, rfl⟩ (by (repeat (first | exact Ent.refl _ | exact Ent.nil | (apply Ent.pick; focus ((repeat (first | exact Rem.here | apply Rem.there)); done)) | apply Ent.drop)))

set_option maxHeartbeats 2000000 in
theorem ref5_Super (g : Geo) (hm : mayG g = true) {L : List HP} : Tr Tryd.prog 58 [.agg g.cells].toArray L (fun r L' => r = .string (strOfNums (superR g)) ∧ L = L') := by
  refine tr_enter Tryd.func58 rfl Tryd.ntmps58 rfl fun w0 => ?_
  have hg := mayG_is hm
  have l1 := putR_len g.disk 2
  have l2 := putR_len g.lines 2
  have l3 := putR_len g.vols 1
  have l4 := putR_len g.segs 2
  have cS := fun (L : List HP) => ref2_Seal ([104, 97, 121, 109] ++ (putR g.disk 2).2 ++ (putR g.lines 2).2 ++ (putR g.vols 1).2 ++ (putR g.segs 2).2) (by simp [putR_len]) (superB_by g) (L := L)
  have c1 := fun (L : List HP) => ref1_Of g.disk 2 (by omega) (by omega) (L := L)
  have c2 := fun (L : List HP) => ref1_Of g.lines 2 (by omega) (by omega) (L := L)
  have c3 := fun (L : List HP) => ref1_Of g.vols 1 (by omega) (by omega) (L := L)
  have c4 := fun (L : List HP) => ref1_Of g.segs 2 (by omega) (by omega) (L := L)
  have k1 := u64w (v := g.disk) (by omega)
  have k2 := u64w (v := g.lines) (by omega)
  have k3 := u64w (v := g.vols) (by omega)
  have k4 := u64w (v := g.segs) (by omega)
  have hR : superR g = sealR ([104, 97, 121, 109] ++ (putR g.disk 2).2 ++ (putR g.lines 2).2 ++ (putR g.vols 1).2 ++ (putR g.segs 2).2) := rfl
  rw [hR]
  generalize sealR ([104, 97, 121, 109] ++ (putR g.disk 2).2 ++ (putR g.lines 2).2 ++ (putR g.vols 1).2 ++ (putR g.segs 2).2) = q at *
  generalize (putR g.disk 2).2 = p1 at *
  generalize (putR g.lines 2).2 = p2 at *
  generalize (putR g.vols 1).2 = p3 at *
  generalize (putR g.segs 2).2 = p4 at *
  simp only [Geo.cells]
  repeat' (first
    | refine swl_op ?_
    | (refine s1_load ?_; refine sc_r (L_load' (by rfl) (by infer_instance) (by rfl)) (by rfl) ?_)
    | (refine s1_fieldAddr ?_; refine sc_r (R_fieldAddr (by rfl)) (by rfl) ?_)
    | (refine s1_assign ?_; refine sc_r (R_assign (by rfl)) (by rfl) ?_)
    | (refine s1_bin ?_; first | refine sc_r (R_catS (a := [104, 97, 121, 109]) (b := p1) (by rfl) (by rfl) (by rfl) (by rfl) (by simp only [List.length_cons, List.length_nil]; omega)) (by rfl) ?_ | refine sc_r (R_catS (a := [104, 97, 121, 109] ++ p1) (b := p2) (by rfl) (by rfl) (by rfl) (by rfl) (by simp only [List.length_append, List.length_cons, List.length_nil]; omega)) (by rfl) ?_ | refine sc_r (R_catS (a := [104, 97, 121, 109] ++ p1 ++ p2) (b := p3) (by rfl) (by rfl) (by rfl) (by rfl) (by simp only [List.length_append, List.length_cons, List.length_nil]; omega)) (by rfl) ?_ | refine sc_r (R_catS (a := [104, 97, 121, 109] ++ p1 ++ p2 ++ p3) (b := p4) (by rfl) (by rfl) (by rfl) (by rfl) (by simp only [List.length_append, List.length_cons, List.length_nil]; omega)) (by rfl) ?_)
    | (refine s1_call ?_; first | (refine sc_c (by rfl) (C_call (by rfl) (by infer_instance) (by rfl) (by rfl) (c1 _)) (by rfl) ?_; rintro _ _ ⟨rfl, rfl⟩) | (refine sc_c (by rfl) (C_call (by rfl) (by infer_instance) (by rfl) (by rfl) (c2 _)) (by rfl) ?_; rintro _ _ ⟨rfl, rfl⟩) | (refine sc_c (by rfl) (C_call (by rfl) (by infer_instance) (by rfl) (by rfl) (c3 _)) (by rfl) ?_; rintro _ _ ⟨rfl, rfl⟩) | (refine sc_c (by rfl) (C_call (by rfl) (by infer_instance) (by rfl) (by rfl) (c4 _)) (by rfl) ?_; rintro _ _ ⟨rfl, rfl⟩) | (refine sc_c (by rfl) (C_call (by rfl) (by infer_instance) (by rfl) (by rfl) (cS _)) (by rfl) ?_; rintro _ _ ⟨rfl, rfl⟩))
    | (refine s1_box ?_; (refine sc_w (by rfl) (W_boxA (by rfl)) (by rfl) ?_; rintro _ _ ⟨_, rfl, rfl⟩))
    | (refine s1_conv ?_; first | refine sc_r (R_convk (by rfl) k1) (by rfl) ?_ | refine sc_r (R_convk (by rfl) k2) (by rfl) ?_ | refine sc_r (R_convk (by rfl) k3) (by rfl) ?_ | refine sc_r (R_convk (by rfl) k4) (by rfl) ?_)
    | refine swl_nil ?_
    | refine sx_next ?_
    | refine sw_seq ?_
    | refine sw_region ?_
    | refine sw_ret ?_
    | refine swh_lt (by rfl) (fun _ _ => wanted_none) ?_
    | refine swh_hv (by rfl) (fun _ _ => wanted_none) ?_
    | refine swh_nil ?_
    | (apply And.intro; focus ((repeat (first | exact Ent.refl _ | exact Ent.nil | (apply Ent.pick; focus ((repeat (first | exact Rem.here | apply Rem.there)); done)) | apply Ent.drop)); done))
    | (refine sw_draw [(0, true), (1, true), (2, true), (5, true), (6, true), (7, true), (10, true), (11, true), (12, true), (15, true), (16, true), (17, true), (3, false), (4, true), (8, false), (9, true), (13, false), (14, true), (18, false), (19, true), (20, false), (21, true)] follows ?_ ?_ ?_; (focus rfl); (focus (decide +kernel)))
    | fail)
  exact sx_ret_of (res1 rfl (ResOne.tmp rfl)) _ ⟨rfl, rfl⟩ (by (repeat (first | exact Ent.refl _ | exact Ent.nil | (apply Ent.pick; focus ((repeat (first | exact Rem.here | apply Rem.there)); done)) | apply Ent.drop)))

theorem ref4_NoughtsS {L : List HP} : Tr Tryd.prog 54 [].toArray L (fun v L' => v = .string (strOfNums zeros128) ∧ L = L') := by
  refine tr_enter Tryd.func54 rfl Tryd.ntmps54 rfl fun w0 => ?_
  repeat' (first
    | refine swl_op ?_
    | (refine s1_assign ?_; refine sc_r (R_assign (by rfl)) (by rfl) ?_)
    | (refine s1_conv ?_; refine sc_r (R_bytes_string (l := List.replicate 128 0) (by rfl) (@SlC.ofVec _ _ _ _ _ _ _ hok ⟨by rw [List.length_map, List.length_replicate]⟩)) (by rfl) ?_)
    | (refine s1_any ?_; (refine sc_w (by rfl) (W_makeSlice (n' := 128) (c' := 128) (zc := u8c 0) (by rfl) (by rfl) (by rfl) (by rfl) (by rfl) (by omega) (by omega)) (by rfl) ?_; rintro _ _ ⟨b, rfl, hok, rfl⟩; rw [show List.replicate 128 (u8c 0) = (List.replicate 128 (0 : Int)).map u8c from List.map_replicate.symm]))
    | refine swl_nil ?_
    | refine sx_next ?_
    | refine sw_seq ?_
    | refine sw_region ?_
    | refine sw_ret ?_
    | fail)
  exact sx_ret_of (res1 rfl (ResOne.tmp rfl)) _ ⟨rfl, rfl⟩ (by (repeat (first | exact Ent.refl _ | exact Ent.nil | (apply Ent.pick; focus ((repeat (first | exact Rem.here | apply Rem.there)); done)) | apply Ent.drop)))
end Go.Proofs.YtjdnflhejfcgdaaDoor

/-
  The document's own devices.
-/
namespace Go.Proofs.YtjdnflhejfcgdaaDoor
open Go Go.SL Go.Proofs

structure RD where
  has : List (List Int)
  faults : List Int
  wait : List (Nat × List Int)
  budget : Int
  off : Bool
  away : Bool
structure RD.OK (D : RD) : Prop where
  fl : D.faults.length = D.has.length
  hn : D.has.length ≤ 8192
  w : ∀ x ∈ D.wait, x.1 < D.has.length
  bu : -1 ≤ D.budget ∧ D.budget ≤ 9223372036854775807
def strC (l : List Int) : Array Value := #[.string (strOfNums l)]
def waitC (x : Nat × List Int) : Array Value := #[.int .i64 x.1, .string (strOfNums x.2)]
def rdCells (a b c : Value) (D : RD) : Array Value := #[a, b, c, .int .i64 D.budget, .bool D.off, .bool D.away]
/-- a device of the document at b -/
def rdP (b : Nat) (D : RD) : HP := ex fun z : Value × Value × Value => st [pt b (.cells #[z.1, z.2.1, z.2.2, .int .i64 D.budget, .bool D.off, .bool D.away] 112),
  vec 9 1 (D.has.map strC) z.1, vec 3 1 (D.faults.map i64c) z.2.1, vec 155 2 (D.wait.map waitC) z.2.2, fact D.OK]
attribute [irreducible] rdP
theorem rdP_open {b : Nat} {D : RD} {L : List HP} {h : Hp} (H : Own (rdP b D :: L) h) : ∃ p1 c1 p2 c2 p3 c3, SlOK p1 D.has.length c1 ∧ SlOK p2 D.faults.length c2 ∧ SlOK p3 D.wait.length c3 ∧ D.OK ∧
    Own (pt b (.cells #[.slice p1 D.has.length c1, .slice p2 D.faults.length c2, .slice p3 D.wait.length c3, .int .i64 D.budget, .bool D.off, .bool D.away] 112) :: vec 9 1 (D.has.map strC) (.slice p1 D.has.length c1) ::
      vec 3 1 (D.faults.map i64c) (.slice p2 D.faults.length c2) :: vec 155 2 (D.wait.map waitC) (.slice p3 D.wait.length c3) :: L) h := by
  unfold rdP at H
  obtain ⟨⟨s1, s2, s3⟩, H⟩ := own_ex H
  replace H := own_st H
  simp only [List.cons_append, List.nil_append] at H
  obtain ⟨p1, c1, rfl, h1⟩ := vec_fact (Ent.own (show Ent _ [vec 9 1 (D.has.map strC) s1] from by (repeat (first | exact Ent.refl _ | exact Ent.nil | (apply Ent.pick; focus ((repeat (first | exact Rem.here | apply Rem.there)); done)) | apply Ent.drop))) H)
  obtain ⟨p2, c2, rfl, h2⟩ := vec_fact (Ent.own (show Ent _ [vec 3 1 (D.faults.map i64c) s2] from by (repeat (first | exact Ent.refl _ | exact Ent.nil | (apply Ent.pick; focus ((repeat (first | exact Rem.here | apply Rem.there)); done)) | apply Ent.drop))) H)
  obtain ⟨p3, c3, rfl, h3⟩ := vec_fact (Ent.own (show Ent _ [vec 155 2 (D.wait.map waitC) s3] from by (repeat (first | exact Ent.refl _ | exact Ent.nil | (apply Ent.pick; focus ((repeat (first | exact Rem.here | apply Rem.there)); done)) | apply Ent.drop))) H)
  have hOK : D.OK := own_fact (Ent.own (show Ent _ [fact D.OK] from by (repeat (first | exact Ent.refl _ | exact Ent.nil | (apply Ent.pick; focus ((repeat (first | exact Rem.here | apply Rem.there)); done)) | apply Ent.drop))) H)
  simp only [List.length_map] at H h1 h2 h3
  exact ⟨p1, c1, p2, c2, p3, c3, h1, h2, h3, hOK, Ent.own (by (repeat (first | exact Ent.refl _ | exact Ent.nil | (apply Ent.pick; focus ((repeat (first | exact Rem.here | apply Rem.there)); done)) | apply Ent.drop))) H⟩
theorem rd_close {b : Nat} {D : RD} {L : List HP} (hOK : D.OK) {s1 s2 s3 : Value} :
    Ent (pt b (.cells #[s1, s2, s3, .int .i64 D.budget, .bool D.off, .bool D.away] 112) :: vec 9 1 (D.has.map strC) s1 ::
      vec 3 1 (D.faults.map i64c) s2 :: vec 155 2 (D.wait.map waitC) s3 :: L) (rdP b D :: L) := by
  refine (Ent.fact_intro hOK).trans ?_
  unfold rdP
  refine Ent.trans ?_ (Ent.ex_intro (s1, s2, s3))
  refine Ent.trans ?_ Ent.shut_st
  simp only [List.cons_append, List.nil_append]
  (repeat (first | exact Ent.refl _ | exact Ent.nil | (apply Ent.pick; focus ((repeat (first | exact Rem.here | apply Rem.there)); done)) | apply Ent.drop))
section
variable {P : Program} {f : FuncId} {args : Array Value} {L : List HP} {R : Value → List HP → Prop}
theorem Tr.open_rd {b : Nat} {D : RD} (h : ∀ p1 c1 p2 c2 p3 c3, SlOK p1 D.has.length c1 → SlOK p2 D.faults.length c2 → SlOK p3 D.wait.length c3 → D.OK →
    Tr P f args (pt b (.cells #[.slice p1 D.has.length c1, .slice p2 D.faults.length c2, .slice p3 D.wait.length c3, .int .i64 D.budget, .bool D.off, .bool D.away] 112) :: vec 9 1 (D.has.map strC) (.slice p1 D.has.length c1) ::
      vec 3 1 (D.faults.map i64c) (.slice p2 D.faults.length c2) :: vec 155 2 (D.wait.map waitC) (.slice p3 D.wait.length c3) :: L) R) : Tr P f args (rdP b D :: L) R := .mk fun w0 w hs => by
  obtain ⟨p1, c1, p2, c2, p3, c3, h1, h2, h3, h4, H⟩ := rdP_open hs.own
  exact (h p1 c1 p2 c2 p3 c3 h1 h2 h3 h4).h w0 w ⟨hs.os, hs.tape, hs.output, hs.size, hs.drawn, H⟩
end

def newRD (n : Nat) : RD := ⟨List.replicate n zeros128, List.replicate n 0, [], -1, false, false⟩
theorem newRD_OK {n : Nat} (h : n ≤ 8192) : (newRD n).OK := ⟨by simp [newRD], by simpa [newRD] using h, fun x hx => by simp [newRD] at hx, by simp [newRD]⟩
theorem noughts' {L : List HP} : Tr Tryd.prog 54 [].toArray L (fun v L' => v = .string (strOfNums zeros128) ∧ L = L') := ref4_NoughtsS

set_option maxHeartbeats 4000000 in
theorem ref4_NewS (n : Nat) (hn : n ≤ 8192) {L : List HP} : Tr Tryd.prog 23 [.int .i64 n].toArray L (fun v L' => ∃ b, v = .pointer (some ⟨b, 0, none⟩) ∧ L' = rdP b (newRD n) :: L) := by
  refine tr_enter Tryd.func23 rfl Tryd.ntmps23 rfl fun w0 => ?_
  repeat' (first
    | refine swl_op ?_
    | (refine s1_assign ?_; refine sc_r (R_assign (by rfl)) (by rfl) ?_)
    | (refine s1_box ?_; (refine sc_w (by rfl) (W_boxA (by rfl)) (by rfl) ?_; rintro _ _ ⟨_, rfl, rfl⟩))
    | (refine s1_any ?_; refine sc_r (R_buildL (by rfl) (by rfl)) (by rfl) ?_)
    | refine swl_nil ?_
    | refine sx_next ?_
    | refine sw_seq ?_
    | refine sw_region ?_
    | refine sw_block ?_
    | fail)
  rename_i b
  refine sw_ent (Ent.vec_nil (e := 9) (k := 1)) ?_
  refine sw_ent (Ent.vec_nil (e := 3) (k := 1)) ?_
  refine sw_loop (γ := Nat × Value × Value × List (Array Value) × List (Array Value)) (fun g => n - g.1) (fun g => [(0, .int .i64 n), (3, .pointer (some ⟨b, 0, none⟩)), (4, .int .i64 g.1)])
    (fun g => pt b (.cells #[g.2.1, g.2.2.1, .slice none 0 0, .int .i64 (-1), .bool false, .bool false] 112) :: vec 9 1 g.2.2.2.1 g.2.1 :: vec 3 1 g.2.2.2.2 g.2.2.1 :: L) (fun g => g.1 ≤ n ∧ g.2.2.2.1 = List.replicate g.1 #[.string (strOfNums zeros128)] ∧ g.2.2.2.2 = List.replicate g.1 #[.int .i64 0]) (0, .slice none 0 0, .slice none 0 0, [], []) ⟨by simp, rfl, rfl⟩
    (subE.cons rfl (subE.cons rfl (subE.cons rfl subE.nil))) (by (repeat (first | exact Ent.refl _ | exact Ent.nil | (apply Ent.pick; focus ((repeat (first | exact Rem.here | apply Rem.there)); done)) | apply Ent.drop))) ?_
  rintro ⟨i, sH, sF, e1, e2⟩ ⟨hi, he1, he2⟩
  dsimp only at hi he1 he2 ⊢
  have hl1 : e1.length = i := by rw [he1, List.length_replicate]
  have hl2 : e2.length = i := by rw [he2, List.length_replicate]
  have hn1 : e1 ++ [#[.string (strOfNums zeros128)]] = List.replicate (i + 1) #[.string (strOfNums zeros128)] := by rw [he1, List.replicate_succ']
  have hn2 : e2 ++ [#[.int .i64 0]] = List.replicate (i + 1) #[.int .i64 0] := by rw [he2, List.replicate_succ']
  by_cases hlt : i < n
  · clear he1 he2
    have noughts := fun (L : List HP) => noughts' (L := L)
    generalize strOfNums zeros128 = str at *
    repeat' (first
    | refine swl_op ?_
    | (refine s1_move ?_; refine sc_r (R_move (by rfl)) (by rfl) ?_)
    | (refine s1_bin ?_; refine sc_r (R_lss (by rfl) (by rfl)) (by rfl) ?_)
    | refine swl_nil ?_
    | refine sx_next ?_
    | refine sw_seq ?_
    | refine sw_region ?_
    | refine sw_block ?_
    | refine sw_cond_pos (by rfl) (by first | assumption | omega) ?_
    | refine sw_skip ?_
    | fail)
    refine sw_openL L follows (by decide +kernel) (by (repeat (first | exact Ent.refl _ | exact Ent.nil | (apply Ent.pick; focus ((repeat (first | exact Rem.here | apply Rem.there)); done)) | apply Ent.drop))) ?_
    repeat' (first
    | (refine s1_move ?_; refine sc_r (R_move (by rfl)) (by rfl) ?_)
    | (refine s1_fieldAddr ?_; refine sc_r (R_fieldAddr (by rfl)) (by rfl) ?_)
    | (refine s1_any ?_; refine sc_r (R_nilCheck (by rfl)) (by rfl) ?_)
    | (refine swg_take 0 (by decide +kernel) (by rfl) (fun _ _ => wanted_none) ?_)
    | (refine swg_take 1 (by decide +kernel) (by rfl) (fun _ _ => wanted_none) ?_)
    | (refine swg_take 2 (by decide +kernel) (by rfl) (fun _ _ => wanted_none) ?_)
    | (refine swg_take 3 (by decide +kernel) (by rfl) (fun _ _ => wanted_none) ?_)
    | fail)
    refine swg_choice (rs := [4, 5]) (by decide +kernel) rfl ?_
    intro j hj
    simp only [List.mem_cons, List.not_mem_nil, or_false] at hj
    rcases hj with rfl | rfl
    · refine swc_op (by rfl) (fun _ _ => wanted_none) ?_
      repeat' (first
    | (refine s1_load ?_; refine sc_r (L_load' (by rfl) (by infer_instance) (by rfl)) (by rfl) ?_)
    | (apply And.intro; focus ((repeat (first | exact Ent.refl _ | exact Ent.nil | (apply Ent.pick; focus ((repeat (first | exact Rem.here | apply Rem.there)); done)) | apply Ent.drop)); done))
    | fail)
      refine swg_order [(5, false), (6, false), (7, false), (8, true), (9, true), (10, false)] (by rfl) (by decide +kernel) ?_
      repeat' (first
    | refine swl_op ?_
    | (refine s1_move ?_; refine sc_r (R_move (by rfl)) (by rfl) ?_)
    | (refine s1_load ?_; refine sc_r (L_load' (by rfl) (by infer_instance) (by rfl)) (by rfl) ?_)
    | (refine s1_fieldAddr ?_; refine sc_r (R_fieldAddr (by rfl)) (by rfl) ?_)
    | (refine s1_assign ?_; refine sc_r (R_assign (by rfl)) (by rfl) ?_)
    | (refine s1_bin ?_; refine sc_r (R_add64 (by rfl) (by rfl) (by omega)) (by rfl) ?_)
    | (refine s1_call ?_; first | (refine sc_c (by rfl) (C_call (by rfl) (by infer_instance) (by rfl) (by rfl) (noughts _)) (by rfl) ?_; rintro _ _ ⟨rfl, rfl⟩) | (refine sc_w (by rfl) (W_append1 (by rfl) (by rfl) (by focus ((repeat (first | exact Rem.here | apply Rem.there)); done)) (by infer_instance) (by rfl) (by rfl) (by omega)) (by rfl) ?_; rintro vv _ rfl; refine ⟨by (repeat (first | exact Ent.refl _ | exact Ent.nil | (apply Ent.pick; focus ((repeat (first | exact Rem.here | apply Rem.there)); done)) | apply Ent.drop)), ?_⟩; refine swh_know (fun h H => vec_fact H) ?_; rintro ⟨pv, cv, rfl, hv⟩) | (refine sc_w (by rfl) (W_append1 (by rfl) (by rfl) (by focus ((repeat (first | exact Rem.here | apply Rem.there)); done)) (by infer_instance) (by rfl) (by rfl) (by omega)) (by rfl) ?_; rintro vv2 _ rfl; refine swl_know (fun h H => vec_fact H) ?_; rintro ⟨pv2, cv2, rfl, hv2⟩))
    | (refine s1_store ?_; (refine sc_w (by rfl) (W_storeL (by rfl) (by rfl) (by infer_instance) (by rfl) (by rfl) (by rfl)) (by rfl) ?_; rintro _ _ ⟨rfl, rfl⟩))
    | (refine s1_any ?_; first | (refine sc_w (by rfl) (W_buildSlice1s (by rfl) (by rfl)) (by rfl) ?_; rintro _ _ ⟨_, rfl, rfl⟩) | refine sc_r (R_nilCheck (by rfl)) (by rfl) ?_)
    | refine swl_nil ?_
    | refine sx_next ?_
    | refine sw_region ?_
    | refine sx_block_normal ?_
    | refine swh_lt (by rfl) (fun _ _ => wanted_none) ?_
    | refine swh_hv (by rfl) (fun _ _ => wanted_none) ?_
    | refine swh_nil ?_
    | (apply And.intro; focus ((repeat (first | exact Ent.refl _ | exact Ent.nil | (apply Ent.pick; focus ((repeat (first | exact Rem.here | apply Rem.there)); done)) | apply Ent.drop)); done))
    | fail)
      exact sx_back (i + 1, .slice pv (e1 ++ [#[Value.string str]]).length cv, .slice pv2 (e2 ++ [#[Value.int .i64 0]]).length cv2, e1 ++ [#[.string str]], e2 ++ [#[.int .i64 0]]) (by simp only; omega) ⟨by simp only; omega, hn1, hn2⟩ (subE.cons rfl (subE.cons rfl (subE.cons rfl subE.nil))) (by (repeat (first | exact Ent.refl _ | exact Ent.nil | (apply Ent.pick; focus ((repeat (first | exact Rem.here | apply Rem.there)); done)) | apply Ent.drop)))
    · refine swc_op (by rfl) (fun _ _ => wanted_none) ?_
      repeat' (first
    | (refine s1_call ?_; (refine sc_c (by rfl) (C_call (by rfl) (by infer_instance) (by rfl) (by rfl) (noughts _)) (by rfl) ?_; rintro _ _ ⟨rfl, rfl⟩))
    | (apply And.intro; focus ((repeat (first | exact Ent.refl _ | exact Ent.nil | (apply Ent.pick; focus ((repeat (first | exact Rem.here | apply Rem.there)); done)) | apply Ent.drop)); done))
    | fail)
      refine swg_choice (rs := [4, 6]) (by decide +kernel) rfl ?_
      intro j hj
      simp only [List.mem_cons, List.not_mem_nil, or_false] at hj
      rcases hj with rfl | rfl
      · refine swc_op (by rfl) (fun _ _ => wanted_none) ?_
        repeat' (first
    | (refine s1_load ?_; refine sc_r (L_load' (by rfl) (by infer_instance) (by rfl)) (by rfl) ?_)
    | (apply And.intro; focus ((repeat (first | exact Ent.refl _ | exact Ent.nil | (apply Ent.pick; focus ((repeat (first | exact Rem.here | apply Rem.there)); done)) | apply Ent.drop)); done))
    | fail)
        refine swg_order [(6, false), (7, false), (8, true), (9, true), (10, false)] (by rfl) (by decide +kernel) ?_
        repeat' (first
    | refine swl_op ?_
    | (refine s1_move ?_; refine sc_r (R_move (by rfl)) (by rfl) ?_)
    | (refine s1_load ?_; refine sc_r (L_load' (by rfl) (by infer_instance) (by rfl)) (by rfl) ?_)
    | (refine s1_fieldAddr ?_; refine sc_r (R_fieldAddr (by rfl)) (by rfl) ?_)
    | (refine s1_assign ?_; refine sc_r (R_assign (by rfl)) (by rfl) ?_)
    | (refine s1_bin ?_; refine sc_r (R_add64 (by rfl) (by rfl) (by omega)) (by rfl) ?_)
    | (refine s1_call ?_; first | (refine sc_w (by rfl) (W_append1 (by rfl) (by rfl) (by focus ((repeat (first | exact Rem.here | apply Rem.there)); done)) (by infer_instance) (by rfl) (by rfl) (by omega)) (by rfl) ?_; rintro vv _ rfl; refine ⟨by (repeat (first | exact Ent.refl _ | exact Ent.nil | (apply Ent.pick; focus ((repeat (first | exact Rem.here | apply Rem.there)); done)) | apply Ent.drop)), ?_⟩; refine swh_know (fun h H => vec_fact H) ?_; rintro ⟨pv, cv, rfl, hv⟩) | (refine sc_w (by rfl) (W_append1 (by rfl) (by rfl) (by focus ((repeat (first | exact Rem.here | apply Rem.there)); done)) (by infer_instance) (by rfl) (by rfl) (by omega)) (by rfl) ?_; rintro vv2 _ rfl; refine swl_know (fun h H => vec_fact H) ?_; rintro ⟨pv2, cv2, rfl, hv2⟩))
    | (refine s1_store ?_; (refine sc_w (by rfl) (W_storeL (by rfl) (by rfl) (by infer_instance) (by rfl) (by rfl) (by rfl)) (by rfl) ?_; rintro _ _ ⟨rfl, rfl⟩))
    | (refine s1_any ?_; first | (refine sc_w (by rfl) (W_buildSlice1s (by rfl) (by rfl)) (by rfl) ?_; rintro _ _ ⟨_, rfl, rfl⟩) | refine sc_r (R_nilCheck (by rfl)) (by rfl) ?_)
    | refine swl_nil ?_
    | refine sx_next ?_
    | refine sw_region ?_
    | refine sx_block_normal ?_
    | refine swh_lt (by rfl) (fun _ _ => wanted_none) ?_
    | refine swh_hv (by rfl) (fun _ _ => wanted_none) ?_
    | refine swh_nil ?_
    | (apply And.intro; focus ((repeat (first | exact Ent.refl _ | exact Ent.nil | (apply Ent.pick; focus ((repeat (first | exact Rem.here | apply Rem.there)); done)) | apply Ent.drop)); done))
    | fail)
        exact sx_back (i + 1, .slice pv (e1 ++ [#[Value.string str]]).length cv, .slice pv2 (e2 ++ [#[Value.int .i64 0]]).length cv2, e1 ++ [#[.string str]], e2 ++ [#[.int .i64 0]]) (by simp only; omega) ⟨by simp only; omega, hn1, hn2⟩ (subE.cons rfl (subE.cons rfl (subE.cons rfl subE.nil))) (by (repeat (first | exact Ent.refl _ | exact Ent.nil | (apply Ent.pick; focus ((repeat (first | exact Rem.here | apply Rem.there)); done)) | apply Ent.drop)))
      · refine swc_op (by rfl) (fun _ _ => wanted_none) ?_
        repeat' (first
    | (refine s1_any ?_; (refine sc_w (by rfl) (W_buildSlice1s (by rfl) (by rfl)) (by rfl) ?_; rintro _ _ ⟨_, rfl, rfl⟩))
    | (apply And.intro; focus ((repeat (first | exact Ent.refl _ | exact Ent.nil | (apply Ent.pick; focus ((repeat (first | exact Rem.here | apply Rem.there)); done)) | apply Ent.drop)); done))
    | fail)
        refine swg_order [(4, false), (7, false), (8, true), (9, true), (10, false)] (by rfl) (by decide +kernel) ?_
        repeat' (first
    | refine swl_op ?_
    | (refine s1_move ?_; refine sc_r (R_move (by rfl)) (by rfl) ?_)
    | (refine s1_load ?_; refine sc_r (L_load' (by rfl) (by infer_instance) (by rfl)) (by rfl) ?_)
    | (refine s1_fieldAddr ?_; refine sc_r (R_fieldAddr (by rfl)) (by rfl) ?_)
    | (refine s1_assign ?_; refine sc_r (R_assign (by rfl)) (by rfl) ?_)
    | (refine s1_bin ?_; refine sc_r (R_add64 (by rfl) (by rfl) (by omega)) (by rfl) ?_)
    | (refine s1_call ?_; first | (refine sc_w (by rfl) (W_append1 (by rfl) (by rfl) (by focus ((repeat (first | exact Rem.here | apply Rem.there)); done)) (by infer_instance) (by rfl) (by rfl) (by omega)) (by rfl) ?_; rintro vv _ rfl; refine ⟨by (repeat (first | exact Ent.refl _ | exact Ent.nil | (apply Ent.pick; focus ((repeat (first | exact Rem.here | apply Rem.there)); done)) | apply Ent.drop)), ?_⟩; refine swh_know (fun h H => vec_fact H) ?_; rintro ⟨pv, cv, rfl, hv⟩) | (refine sc_w (by rfl) (W_append1 (by rfl) (by rfl) (by focus ((repeat (first | exact Rem.here | apply Rem.there)); done)) (by infer_instance) (by rfl) (by rfl) (by omega)) (by rfl) ?_; rintro vv2 _ rfl; refine swl_know (fun h H => vec_fact H) ?_; rintro ⟨pv2, cv2, rfl, hv2⟩))
    | (refine s1_store ?_; (refine sc_w (by rfl) (W_storeL (by rfl) (by rfl) (by infer_instance) (by rfl) (by rfl) (by rfl)) (by rfl) ?_; rintro _ _ ⟨rfl, rfl⟩))
    | (refine s1_any ?_; first | (refine sc_w (by rfl) (W_buildSlice1s (by rfl) (by rfl)) (by rfl) ?_; rintro _ _ ⟨_, rfl, rfl⟩) | refine sc_r (R_nilCheck (by rfl)) (by rfl) ?_)
    | refine swl_nil ?_
    | refine sx_next ?_
    | refine sw_region ?_
    | refine sx_block_normal ?_
    | refine swh_lt (by rfl) (fun _ _ => wanted_none) ?_
    | refine swh_hv (by rfl) (fun _ _ => wanted_none) ?_
    | refine swh_nil ?_
    | (apply And.intro; focus ((repeat (first | exact Ent.refl _ | exact Ent.nil | (apply Ent.pick; focus ((repeat (first | exact Rem.here | apply Rem.there)); done)) | apply Ent.drop)); done))
    | fail)
        exact sx_back (i + 1, .slice pv (e1 ++ [#[Value.string str]]).length cv, .slice pv2 (e2 ++ [#[Value.int .i64 0]]).length cv2, e1 ++ [#[.string str]], e2 ++ [#[.int .i64 0]]) (by simp only; omega) ⟨by simp only; omega, hn1, hn2⟩ (subE.cons rfl (subE.cons rfl (subE.cons rfl subE.nil))) (by (repeat (first | exact Ent.refl _ | exact Ent.nil | (apply Ent.pick; focus ((repeat (first | exact Rem.here | apply Rem.there)); done)) | apply Ent.drop)))
  · obtain rfl : i = n := by omega
    repeat' (first
    | refine swl_op ?_
    | (refine s1_move ?_; refine sc_r (R_move (by rfl)) (by rfl) ?_)
    | (refine s1_assign ?_; refine sc_r (R_assign (by rfl)) (by rfl) ?_)
    | (refine s1_bin ?_; refine sc_r (R_lss (by rfl) (by rfl)) (by rfl) ?_)
    | refine swl_nil ?_
    | refine sx_next ?_
    | refine sw_seq ?_
    | refine sw_region ?_
    | refine sx_past_exit ?_
    | refine sx_block_here ?_
    | refine sw_cond_neg (by rfl) (by first | assumption | omega) ?_
    | refine sw_ret ?_
    | refine sw_exit ?_
    | fail)
    refine sx_ret_of (res1 rfl (ResOne.tmp rfl)) _ ⟨_, rfl, rfl⟩ (Ent.trans ?_ (rd_close (newRD_OK hn) (s1 := sH) (s2 := sF) (s3 := .slice none 0 0)))
    rw [show (newRD i).has.map strC = e1 by rw [he1]; simp [newRD, strC], show (newRD i).faults.map i64c = e2 by rw [he2]; simp [newRD, i64c], show (newRD i).wait.map waitC = [] from rfl]
    refine Ent.trans (Ent.vec_nil (e := 155) (k := 2)) ?_
    simp only [newRD]
    (repeat (first | exact Ent.refl _ | exact Ent.nil | (apply Ent.pick; focus ((repeat (first | exact Rem.here | apply Rem.there)); done)) | apply Ent.drop))
end Go.Proofs.YtjdnflhejfcgdaaDoor

/-
  The document's own devices: what they do.
-/
namespace Go.Proofs.YtjdnflhejfcgdaaDoor
open Go Go.SL Go.Proofs

def rF (bu : Int) (off : Bool) : Bool := if off then true else decide (bu = 0)
def rB (bu : Int) (off : Bool) : Int := if rF bu off then bu else if 0 < bu then bu - 1 else bu
def RD.F (D : RD) : Bool := rF D.budget D.off
def RD.spend (D : RD) : RD := { D with budget := rB D.budget D.off, off := rF D.budget D.off }
theorem rB_bd {bu : Int} {off : Bool} (h : -1 ≤ bu ∧ bu ≤ 9223372036854775807) : -1 ≤ rB bu off ∧ rB bu off ≤ 9223372036854775807 := by
  unfold rB; split <;> (try split) <;> omega
theorem RD.spend_OK {D : RD} (h : D.OK) : D.spend.OK := ⟨h.fl, h.hn, h.w, rB_bd h.bu⟩

theorem ref4_fails (b : Nat) {bu : Int} {off aw : Bool} {x0 x1 x2 : Value} {T : TypeId} {L : List HP} (hbu : -1 ≤ bu ∧ bu ≤ 9223372036854775807) :
    Tr Tryd.prog 92 [.pointer (some ⟨b, 0, none⟩)].toArray (pt b (.cells #[x0, x1, x2, .int .i64 bu, .bool off, .bool aw] T) :: L)
      (fun v L' => v = .bool (rF bu off) ∧ L' = pt b (.cells #[x0, x1, x2, .int .i64 (rB bu off), .bool (rF bu off), .bool aw] T) :: L) := by
  refine tr_enter Tryd.func92 rfl Tryd.ntmps92 rfl fun w0 => ?_
  cases off
  · by_cases h0 : bu = 0
    · subst h0
      repeat' (first
    | refine swl_op ?_
    | (refine s1_move ?_; refine sc_r (R_move (by rfl)) (by rfl) ?_)
    | (refine s1_load ?_; refine sc_r (L_load' (by rfl) (by infer_instance) (by rfl)) (by rfl) ?_)
    | (refine s1_fieldAddr ?_; refine sc_r (R_fieldAddr (by rfl)) (by rfl) ?_)
    | (refine s1_assign ?_; refine sc_r (R_assign (by rfl)) (by rfl) ?_)
    | (refine s1_pick ?_; refine sc_r (R_pick_f (by rfl) (by rfl)) (by rfl) ?_)
    | (refine s1_bin ?_; refine sc_r (R_eql (by rfl) (by rfl)) (by rfl) ?_)
    | (refine s1_store ?_; (refine sc_w (by rfl) (W_storeL (by rfl) (by rfl) (by infer_instance) (by rfl) (by rfl) (by rfl)) (by rfl) ?_; rintro _ _ ⟨rfl, rfl⟩))
    | (refine s1_any ?_; refine sc_r (R_nilCheck (by rfl)) (by rfl) ?_)
    | refine swl_nil ?_
    | refine sx_next ?_
    | refine sw_seq ?_
    | refine sw_region ?_
    | refine swl_g_on (by rfl) (by rfl) ?_
    | refine sx_past_ret ?_
    | refine sw_cond_true (by rfl) ?_
    | refine sw_ret ?_
    | fail)
      exact sx_ret_of (res1 rfl (ResOne.tmp rfl)) _ ⟨rfl, rfl⟩ (by (repeat (first | exact Ent.refl _ | exact Ent.nil | (apply Ent.pick; focus ((repeat (first | exact Rem.here | apply Rem.there)); done)) | apply Ent.drop)))
    · have hF : rF bu false = false := by simp [rF, h0]
      rw [hF]
      by_cases h1 : 0 < bu
      · have hB : rB bu false = bu - 1 := by simp [rB, hF, h1]
        rw [hB]
        repeat' (first
    | refine swl_op ?_
    | (refine s1_move ?_; refine sc_r (R_move (by rfl)) (by rfl) ?_)
    | (refine s1_load ?_; refine sc_r (L_load' (by rfl) (by infer_instance) (by rfl)) (by rfl) ?_)
    | (refine s1_fieldAddr ?_; refine sc_r (R_fieldAddr (by rfl)) (by rfl) ?_)
    | (refine s1_assign ?_; refine sc_r (R_assign (by rfl)) (by rfl) ?_)
    | (refine s1_pick ?_; refine sc_r (R_pick_f (by rfl) (by rfl)) (by rfl) ?_)
    | (refine s1_bin ?_; first | refine sc_r (R_gtr (by rfl) (by rfl)) (by rfl) ?_ | refine sc_r (R_eql (by rfl) (by rfl)) (by rfl) ?_ | refine sc_r (R_sub64 (by rfl) (by rfl) (by omega)) (by rfl) ?_)
    | (refine s1_store ?_; (refine sc_w (by rfl) (W_storeL (by rfl) (by rfl) (by infer_instance) (by rfl) (by rfl) (by rfl)) (by rfl) ?_; rintro _ _ ⟨rfl, rfl⟩))
    | (refine s1_any ?_; refine sc_r (R_nilCheck (by rfl)) (by rfl) ?_)
    | refine swl_nil ?_
    | refine sx_next ?_
    | refine sw_seq ?_
    | refine sw_region ?_
    | refine swl_g_on (by rfl) (by rfl) ?_
    | refine sw_cond_pos (by rfl) (by first | assumption | omega) ?_
    | refine sw_cond_neg (by rfl) (by first | assumption | omega) ?_
    | refine sw_ret ?_
    | refine sw_skip ?_
    | fail)
        exact sx_ret_of (res1 rfl (ResOne.tmp rfl)) _ ⟨rfl, rfl⟩ (by (repeat (first | exact Ent.refl _ | exact Ent.nil | (apply Ent.pick; focus ((repeat (first | exact Rem.here | apply Rem.there)); done)) | apply Ent.drop)))
      · have hB : rB bu false = bu := by simp [rB, hF, h1]
        rw [hB]
        repeat' (first
    | refine swl_op ?_
    | (refine s1_move ?_; refine sc_r (R_move (by rfl)) (by rfl) ?_)
    | (refine s1_load ?_; refine sc_r (L_load' (by rfl) (by infer_instance) (by rfl)) (by rfl) ?_)
    | (refine s1_fieldAddr ?_; refine sc_r (R_fieldAddr (by rfl)) (by rfl) ?_)
    | (refine s1_assign ?_; refine sc_r (R_assign (by rfl)) (by rfl) ?_)
    | (refine s1_pick ?_; refine sc_r (R_pick_f (by rfl) (by rfl)) (by rfl) ?_)
    | (refine s1_bin ?_; first | refine sc_r (R_gtr (by rfl) (by rfl)) (by rfl) ?_ | refine sc_r (R_eql (by rfl) (by rfl)) (by rfl) ?_)
    | (refine s1_any ?_; refine sc_r (R_nilCheck (by rfl)) (by rfl) ?_)
    | refine swl_nil ?_
    | refine sx_next ?_
    | refine sw_seq ?_
    | refine sw_region ?_
    | refine swl_g_on (by rfl) (by rfl) ?_
    | refine sw_cond_neg (by rfl) (by first | assumption | omega) ?_
    | refine sw_ret ?_
    | refine sw_skip ?_
    | fail)
        exact sx_ret_of (res1 rfl (ResOne.tmp rfl)) _ ⟨rfl, rfl⟩ (by (repeat (first | exact Ent.refl _ | exact Ent.nil | (apply Ent.pick; focus ((repeat (first | exact Rem.here | apply Rem.there)); done)) | apply Ent.drop)))
  · repeat' (first
    | refine swl_op ?_
    | (refine s1_move ?_; refine sc_r (R_move (by rfl)) (by rfl) ?_)
    | (refine s1_load ?_; refine sc_r (L_load' (by rfl) (by infer_instance) (by rfl)) (by rfl) ?_)
    | (refine s1_fieldAddr ?_; refine sc_r (R_fieldAddr (by rfl)) (by rfl) ?_)
    | (refine s1_assign ?_; refine sc_r (R_assign (by rfl)) (by rfl) ?_)
    | (refine s1_pick ?_; refine sc_r (R_pick_t (by rfl) (by rfl)) (by rfl) ?_)
    | (refine s1_store ?_; (refine sc_w (by rfl) (W_storeL (by rfl) (by rfl) (by infer_instance) (by rfl) (by rfl) (by rfl)) (by rfl) ?_; rintro _ _ ⟨rfl, rfl⟩))
    | (refine s1_any ?_; refine sc_r (R_nilCheck (by rfl)) (by rfl) ?_)
    | refine swl_nil ?_
    | refine sx_next ?_
    | refine sw_seq ?_
    | refine sw_region ?_
    | refine swl_g_off (by rfl) (by rfl) (by rfl) (by rfl) ?_
    | refine sx_past_ret ?_
    | refine sw_cond_true (by rfl) ?_
    | refine sw_ret ?_
    | fail)
    exact sx_ret_of (res1 rfl (ResOne.tmp rfl)) _ ⟨rfl, rfl⟩ (by (repeat (first | exact Ent.refl _ | exact Ent.nil | (apply Ent.pick; focus ((repeat (first | exact Rem.here | apply Rem.there)); done)) | apply Ent.drop)))

def RD.eE (D : RD) : Int := if D.F then 10 else if D.away then 9 else 0
def RD.eS (D : RD) : RD := if D.eE = 0 then { D.spend with has := List.replicate D.has.length zeros128, wait := [] } else D.spend
def fl1 (bs : List (List Int)) (w : List (Nat × List Int)) : List (List Int) := w.foldl (fun bs x => bs.set x.1 x.2) bs
def RD.fS (D : RD) : RD := if D.eE = 0 then { D.spend with has := fl1 D.has D.wait, wait := [] } else D.spend
theorem fl1_len (w : List (Nat × List Int)) : ∀ bs, (fl1 bs w).length = bs.length := by
  induction w with
  | nil => intro bs; rfl
  | cons x r ih => intro bs; simp only [fl1, List.foldl_cons] at ih ⊢; rw [ih, List.length_set]
theorem RD.eS_OK {D : RD} (h : D.OK) : D.eS.OK := by
  unfold RD.eS
  split
  · exact ⟨by simp [RD.spend, h.fl], by simpa using h.hn, fun x hx => by simp at hx, rB_bd h.bu⟩
  · exact RD.spend_OK h
theorem RD.fS_OK {D : RD} (h : D.OK) : D.fS.OK := by
  unfold RD.fS
  split
  · exact ⟨by simp [RD.spend, h.fl, fl1_len], by simpa [fl1_len] using h.hn, fun x hx => by simp at hx, rB_bd h.bu⟩
  · exact RD.spend_OK h

set_option maxHeartbeats 1000000 in
theorem ref4_Erase (b : Nat) (D : RD) {L : List HP} : Tr Tryd.prog 56 [.pointer (some ⟨b, 0, none⟩)].toArray (rdP b D :: L) (fun v L' => v = .int .i64 D.eE ∧ L' = rdP b D.eS :: L) := by
  refine Tr.open_rd fun p1 c1 p2 c2 p3 c3 h1 h2 h3 hOK => ?_
  refine tr_enter Tryd.func56 rfl Tryd.ntmps56 rfl fun w0 => ?_
  have cF := fun (x0 x1 x2 : Value) (L : List HP) => ref4_fails b (x0 := x0) (x1 := x1) (x2 := x2) (off := D.off) (aw := D.away) (T := 112) (L := L) hOK.bu
  have cN := fun (L : List HP) => noughts' (L := L)
  have hhn := hOK.hn
  have hES := RD.eS_OK hOK
  have hSO := RD.spend_OK hOK
  by_cases hF : rF D.budget D.off = true
  · have he : D.eE = 10 := by simp [RD.eE, RD.F, hF]
    have hs : D.eS = D.spend := by simp [RD.eS, he]
    rw [he, hs]
    have hspo : D.spend.off = true := hF
    rw [hF] at cF
    repeat' (first
    | refine swl_op ?_
    | (refine s1_move ?_; refine sc_r (R_move (by rfl)) (by rfl) ?_)
    | (refine s1_assign ?_; refine sc_r (R_assign (by rfl)) (by rfl) ?_)
    | (refine s1_call ?_; (refine sc_c (by rfl) (C_call (by rfl) (by infer_instance) (by rfl) (by rfl) (cF _ _ _ _)) (by rfl) ?_; rintro _ _ ⟨rfl, rfl⟩))
    | refine swl_nil ?_
    | refine sx_next ?_
    | refine sw_seq ?_
    | refine sw_region ?_
    | refine sx_past_ret ?_
    | refine sw_cond_true (by rfl) ?_
    | refine sw_ret ?_
    | fail)
    refine sx_ret_of (res1 rfl (ResOne.tmp rfl)) _ ⟨rfl, rfl⟩ (Ent.trans ?_ (rd_close hSO (s1 := .slice p1 D.has.length c1) (s2 := .slice p2 D.faults.length c2) (s3 := .slice p3 D.wait.length c3)))
    rw [hspo]
    (repeat (first | exact Ent.refl _ | exact Ent.nil | (apply Ent.pick; focus ((repeat (first | exact Rem.here | apply Rem.there)); done)) | apply Ent.drop))
  · have hF' : rF D.budget D.off = false := by simpa using hF
    rw [hF'] at cF
    have hspo : D.spend.off = false := hF'
    by_cases haw : D.away = true
    · have he : D.eE = 9 := by simp [RD.eE, RD.F, hF', haw]
      have hs : D.eS = D.spend := by simp [RD.eS, he]
      rw [he, hs]
      have haw' : D.spend.away = true := haw
      rw [haw] at cF ⊢
      repeat' (first
    | refine swl_op ?_
    | (refine s1_move ?_; refine sc_r (R_move (by rfl)) (by rfl) ?_)
    | (refine s1_load ?_; refine sc_r (L_load' (by rfl) (by infer_instance) (by rfl)) (by rfl) ?_)
    | (refine s1_fieldAddr ?_; refine sc_r (R_fieldAddr (by rfl)) (by rfl) ?_)
    | (refine s1_assign ?_; refine sc_r (R_assign (by rfl)) (by rfl) ?_)
    | (refine s1_call ?_; (refine sc_c (by rfl) (C_call (by rfl) (by infer_instance) (by rfl) (by rfl) (cF _ _ _ _)) (by rfl) ?_; rintro _ _ ⟨rfl, rfl⟩))
    | (refine s1_any ?_; refine sc_r (R_nilCheck (by rfl)) (by rfl) ?_)
    | refine swl_nil ?_
    | refine sx_next ?_
    | refine sw_seq ?_
    | refine sw_region ?_
    | refine sx_past_ret ?_
    | refine sw_cond_true (by rfl) ?_
    | refine sw_cond_false (by rfl) ?_
    | refine sw_ret ?_
    | refine sw_skip ?_
    | fail)
      refine sx_ret_of (res1 rfl (ResOne.tmp rfl)) _ ⟨rfl, rfl⟩ (Ent.trans ?_ (rd_close hSO (s1 := .slice p1 D.has.length c1) (s2 := .slice p2 D.faults.length c2) (s3 := .slice p3 D.wait.length c3)))
      rw [hspo, haw']
      (repeat (first | exact Ent.refl _ | exact Ent.nil | (apply Ent.pick; focus ((repeat (first | exact Rem.here | apply Rem.there)); done)) | apply Ent.drop))
    · have haw' : D.away = false := by simpa using haw
      have he : D.eE = 0 := by simp [RD.eE, RD.F, hF', haw']
      have hs : D.eS = { D.spend with has := List.replicate D.has.length zeros128, wait := [] } := by simp [RD.eS, he]
      rw [hs] at hES
      rw [he, hs]
      rw [haw'] at cF ⊢
      repeat' (first
    | refine swl_op ?_
    | (refine s1_move ?_; refine sc_r (R_move (by rfl)) (by rfl) ?_)
    | (refine s1_load ?_; refine sc_r (L_load' (by rfl) (by infer_instance) (by rfl)) (by rfl) ?_)
    | (refine s1_fieldAddr ?_; refine sc_r (R_fieldAddr (by rfl)) (by rfl) ?_)
    | (refine s1_assign ?_; refine sc_r (R_assign (by rfl)) (by rfl) ?_)
    | (refine s1_call ?_; (refine sc_c (by rfl) (C_call (by rfl) (by infer_instance) (by rfl) (by rfl) (cF _ _ _ _)) (by rfl) ?_; rintro _ _ ⟨rfl, rfl⟩))
    | (refine s1_any ?_; refine sc_r (R_nilCheck (by rfl)) (by rfl) ?_)
    | refine swl_nil ?_
    | refine sx_next ?_
    | refine sw_seq ?_
    | refine sw_region ?_
    | refine sw_block ?_
    | refine sw_cond_false (by rfl) ?_
    | refine sw_skip ?_
    | fail)
      refine sw_loop (γ := Nat) (fun g => D.has.length - g) (fun g => [(0, .pointer (some ⟨b, 0, none⟩)), (3, .int .i64 g)])
        (fun g => vec 9 1 (List.replicate g #[.string (strOfNums zeros128)] ++ (D.has.drop g).map strC) (.slice p1 D.has.length c1) :: pt b (.cells #[.slice p1 D.has.length c1, .slice p2 D.faults.length c2, .slice p3 D.wait.length c3, .int .i64 (rB D.budget D.off), .bool false, .bool false] 112) ::
          vec 3 1 (D.faults.map i64c) (.slice p2 D.faults.length c2) :: vec 155 2 (D.wait.map waitC) (.slice p3 D.wait.length c3) :: L) (fun g => g ≤ D.has.length) 0 (by omega)
        (subE.cons rfl (subE.cons rfl subE.nil)) (by simp only [List.replicate_zero, List.nil_append, List.drop_zero]; (repeat (first | exact Ent.refl _ | exact Ent.nil | (apply Ent.pick; focus ((repeat (first | exact Rem.here | apply Rem.there)); done)) | apply Ent.drop))) ?_
      intro i hi
      by_cases hlt : i < D.has.length
      · have hset : (List.replicate i #[Value.string (strOfNums zeros128)] ++ (D.has.drop i).map strC).set i #[.string (strOfNums zeros128)] = List.replicate (i + 1) #[Value.string (strOfNums zeros128)] ++ (D.has.drop (i + 1)).map strC := by
          rw [List.drop_eq_getElem_cons hlt, List.map_cons, List.set_append_right _ _ (by simp), List.length_replicate, Nat.sub_self, List.set_cons_zero, List.replicate_succ', List.append_assoc]; rfl
        have hli : i < (List.replicate i #[Value.string (strOfNums zeros128)] ++ (D.has.drop i).map strC).length := by simp; omega
        obtain ⟨bb, oo, rfl⟩ := h1.ptr (by omega)
        generalize strOfNums zeros128 = str at *
        generalize List.replicate i #[Value.string str] ++ (D.has.drop i).map strC = els at *
        repeat' (first
    | refine swl_op ?_
    | (refine s1_move ?_; refine sc_r (R_move (by rfl)) (by rfl) ?_)
    | (refine s1_load ?_; refine sc_r (L_load' (by rfl) (by infer_instance) (by rfl)) (by rfl) ?_)
    | (refine s1_fieldAddr ?_; refine sc_r (R_fieldAddr (by rfl)) (by rfl) ?_)
    | (refine s1_bin ?_; refine sc_r (R_lss (by rfl) (by rfl)) (by rfl) ?_)
    | (refine s1_call ?_; refine sc_r (R_len (by rfl)) (by rfl) ?_)
    | (refine s1_any ?_; refine sc_r (R_nilCheck (by rfl)) (by rfl) ?_)
    | refine swl_nil ?_
    | refine sx_next ?_
    | refine sw_seq ?_
    | refine sw_region ?_
    | refine sw_block ?_
    | refine sw_cond_pos (by rfl) (by first | assumption | omega) ?_
    | refine sw_skip ?_
    | fail)
        refine sw_openL (pt b (.cells #[.slice (some ⟨bb, oo, none⟩) D.has.length c1, .slice p2 D.faults.length c2, .slice p3 D.wait.length c3, .int .i64 (rB D.budget D.off), .bool false, .bool false] 112) :: L) follows (by decide +kernel) (by (repeat (first | exact Ent.refl _ | exact Ent.nil | (apply Ent.pick; focus ((repeat (first | exact Rem.here | apply Rem.there)); done)) | apply Ent.drop))) ?_
        repeat' (first
    | (refine s1_move ?_; refine sc_r (R_move (by rfl)) (by rfl) ?_)
    | (refine s1_fieldAddr ?_; refine sc_r (R_fieldAddr (by rfl)) (by rfl) ?_)
    | (refine s1_any ?_; refine sc_r (R_nilCheck (by rfl)) (by rfl) ?_)
    | (refine swg_take 0 (by decide +kernel) (by rfl) (fun _ _ => wanted_none) ?_)
    | (refine swg_take 1 (by decide +kernel) (by rfl) (fun _ _ => wanted_none) ?_)
    | (refine swg_take 2 (by decide +kernel) (by rfl) (fun _ _ => wanted_none) ?_)
    | (refine swg_take 4 (by decide +kernel) (by rfl) (fun _ _ => wanted_none) ?_)
    | fail)
        refine swg_choice (rs := [3, 5]) (by decide +kernel) rfl ?_
        intro j hj
        simp only [List.mem_cons, List.not_mem_nil, or_false] at hj
        rcases hj with rfl | rfl
        · refine swc_op (by rfl) (fun _ _ => wanted_none) ?_
          repeat' (first
    | (refine s1_load ?_; refine sc_r (L_load' (by rfl) (by infer_instance) (by rfl)) (by rfl) ?_)
    | (apply And.intro; focus ((repeat (first | exact Ent.refl _ | exact Ent.nil | (apply Ent.pick; focus ((repeat (first | exact Rem.here | apply Rem.there)); done)) | apply Ent.drop)); done))
    | fail)
          refine swg_order [(5, false), (6, true), (7, false)] (by rfl) (by decide +kernel) ?_
          repeat' (first
    | refine swl_op ?_
    | (refine s1_move ?_; refine sc_r (R_move (by rfl)) (by rfl) ?_)
    | (refine s1_assign ?_; refine sc_r (R_assign (by rfl)) (by rfl) ?_)
    | (refine s1_bin ?_; refine sc_r (R_add64 (by rfl) (by rfl) (by omega)) (by rfl) ?_)
    | (refine s1_call ?_; (refine sc_c (by rfl) (C_call (by rfl) (by infer_instance) (by rfl) (by rfl) (cN _)) (by rfl) ?_; rintro _ _ ⟨rfl, rfl⟩))
    | (refine s1_indexAddr ?_; refine sc_r (R_indexAddr (by rfl) (by rfl) (by omega)) (by rfl) ?_)
    | (refine s1_store ?_; (refine sc_w (by rfl) (W_store_el1 (by rfl) (by rfl) (by focus ((repeat (first | exact Rem.here | apply Rem.there)); done)) (by rfl) hli) (by rfl) ?_; rintro _ _ ⟨rfl, rfl⟩; rw [Int.toNat_natCast, hset]))
    | refine swl_nil ?_
    | refine sx_next ?_
    | refine sw_region ?_
    | refine sx_block_normal ?_
    | refine swh_lt (by rfl) (fun _ _ => wanted_none) ?_
    | refine swh_hv (by rfl) (fun _ _ => wanted_none) ?_
    | refine swh_nil ?_
    | (apply And.intro; focus ((repeat (first | exact Ent.refl _ | exact Ent.nil | (apply Ent.pick; focus ((repeat (first | exact Rem.here | apply Rem.there)); done)) | apply Ent.drop)); done))
    | fail)
          exact sx_back (i + 1) (by omega) (by omega) (subE.cons rfl (subE.cons rfl subE.nil)) (by (repeat (first | exact Ent.refl _ | exact Ent.nil | (apply Ent.pick; focus ((repeat (first | exact Rem.here | apply Rem.there)); done)) | apply Ent.drop)))
        · refine swc_op (by rfl) (fun _ _ => wanted_none) ?_
          repeat' (first
    | (refine s1_call ?_; (refine sc_c (by rfl) (C_call (by rfl) (by infer_instance) (by rfl) (by rfl) (cN _)) (by rfl) ?_; rintro _ _ ⟨rfl, rfl⟩))
    | (apply And.intro; focus ((repeat (first | exact Ent.refl _ | exact Ent.nil | (apply Ent.pick; focus ((repeat (first | exact Rem.here | apply Rem.there)); done)) | apply Ent.drop)); done))
    | fail)
          refine swg_order [(3, false), (6, true), (7, false)] (by rfl) (by decide +kernel) ?_
          repeat' (first
    | refine swl_op ?_
    | (refine s1_move ?_; refine sc_r (R_move (by rfl)) (by rfl) ?_)
    | (refine s1_load ?_; refine sc_r (L_load' (by rfl) (by infer_instance) (by rfl)) (by rfl) ?_)
    | (refine s1_assign ?_; refine sc_r (R_assign (by rfl)) (by rfl) ?_)
    | (refine s1_bin ?_; refine sc_r (R_add64 (by rfl) (by rfl) (by omega)) (by rfl) ?_)
    | (refine s1_indexAddr ?_; refine sc_r (R_indexAddr (by rfl) (by rfl) (by omega)) (by rfl) ?_)
    | (refine s1_store ?_; (refine sc_w (by rfl) (W_store_el1 (by rfl) (by rfl) (by focus ((repeat (first | exact Rem.here | apply Rem.there)); done)) (by rfl) hli) (by rfl) ?_; rintro _ _ ⟨rfl, rfl⟩; rw [Int.toNat_natCast, hset]))
    | refine swl_nil ?_
    | refine sx_next ?_
    | refine sw_region ?_
    | refine sx_block_normal ?_
    | refine swh_lt (by rfl) (fun _ _ => wanted_none) ?_
    | refine swh_hv (by rfl) (fun _ _ => wanted_none) ?_
    | refine swh_nil ?_
    | (apply And.intro; focus ((repeat (first | exact Ent.refl _ | exact Ent.nil | (apply Ent.pick; focus ((repeat (first | exact Rem.here | apply Rem.there)); done)) | apply Ent.drop)); done))
    | fail)
          exact sx_back (i + 1) (by omega) (by omega) (subE.cons rfl (subE.cons rfl subE.nil)) (by (repeat (first | exact Ent.refl _ | exact Ent.nil | (apply Ent.pick; focus ((repeat (first | exact Rem.here | apply Rem.there)); done)) | apply Ent.drop)))
      · obtain rfl : i = D.has.length := by omega
        rw [List.drop_length, List.map_nil, List.append_nil]
        repeat' (first
    | refine swl_op ?_
    | (refine s1_move ?_; refine sc_r (R_move (by rfl)) (by rfl) ?_)
    | (refine s1_load ?_; refine sc_r (L_load' (by rfl) (by infer_instance) (by rfl)) (by rfl) ?_)
    | (refine s1_fieldAddr ?_; refine sc_r (R_fieldAddr (by rfl)) (by rfl) ?_)
    | (refine s1_assign ?_; refine sc_r (R_assign (by rfl)) (by rfl) ?_)
    | (refine s1_bin ?_; refine sc_r (R_lss (by rfl) (by rfl)) (by rfl) ?_)
    | (refine s1_call ?_; refine sc_r (R_len (by rfl)) (by rfl) ?_)
    | (refine s1_store ?_; (refine sc_w (by rfl) (W_storeL (by rfl) (by rfl) (by infer_instance) (by rfl) (by rfl) (by rfl)) (by rfl) ?_; rintro _ _ ⟨rfl, rfl⟩))
    | (refine s1_any ?_; refine sc_r (R_nilCheck (by rfl)) (by rfl) ?_)
    | refine swl_nil ?_
    | refine sx_next ?_
    | refine sw_seq ?_
    | refine sw_region ?_
    | refine sx_past_exit ?_
    | refine sx_block_here ?_
    | refine sw_cond_neg (by rfl) (by first | assumption | omega) ?_
    | refine sw_ret ?_
    | refine sw_exit ?_
    | fail)
        refine sx_ret_of (res1 rfl (ResOne.tmp rfl)) _ ⟨rfl, rfl⟩ (Ent.trans ?_ (rd_close hES (s1 := .slice p1 D.has.length c1) (s2 := .slice p2 D.faults.length c2) (s3 := .slice none 0 0)))
        rw [show ({ D.spend with has := List.replicate D.has.length zeros128, wait := [] } : RD).has.map strC = List.replicate D.has.length #[Value.string (strOfNums zeros128)] by simp [strC]]
        refine Ent.trans (Ent.vec_nil (e := 155) (k := 2)) ?_
        rw [show ({ D.spend with has := List.replicate D.has.length zeros128, wait := [] } : RD).off = false from hspo, show ({ D.spend with has := List.replicate D.has.length zeros128, wait := [] } : RD).away = false from haw']
        simp only [RD.spend, List.map_nil]
        (repeat (first | exact Ent.refl _ | exact Ent.nil | (apply Ent.pick; focus ((repeat (first | exact Rem.here | apply Rem.there)); done)) | apply Ent.drop))
end Go.Proofs.YtjdnflhejfcgdaaDoor

/-
  The document's own devices: writes and flushes.
-/
namespace Go.Proofs.YtjdnflhejfcgdaaDoor
open Go Go.SL Go.Proofs

def RD.wE (D : RD) (i : Int) (n : Nat) : Int := if i < 0 ∨ (D.has.length : Int) ≤ i then 4 else if n ≠ 128 then 1 else if D.F then 10 else if D.away ∨ 1 < D.faults.getD i.toNat 0 then 9 else 0
def RD.wS (D : RD) (i : Int) (s : List Int) : RD := if D.wE i s.length = 4 ∨ D.wE i s.length = 1 then D else if D.wE i s.length = 0 then { D.spend with wait := D.wait ++ [(i.toNat, s)] } else D.spend
theorem RD.wS_OK {D : RD} (h : D.OK) (i : Int) (s : List Int) : (D.wS i s).OK := by
  unfold RD.wS
  split
  · exact h
  · split
    · rename_i h1 h2
      refine ⟨h.fl, h.hn, fun x hx => ?_, rB_bd h.bu⟩
      rcases List.mem_append.1 hx with hx | hx
      · exact h.w x hx
      · simp only [List.mem_singleton] at hx
        subst hx
        have : ¬ (i < 0 ∨ (D.has.length : Int) ≤ i) := fun hc => by rw [RD.wE, if_pos hc] at h2; omega
        show i.toNat < D.has.length
        omega
    · exact RD.spend_OK h
set_option maxHeartbeats 2000000 in
theorem ref4_Write (b : Nat) (D : RD) (i : Int) (s : List Int) (hq : D.wait.length ≤ 100000) {L : List HP} : Tr Tryd.prog 57 [.pointer (some ⟨b, 0, none⟩), .int .i64 i, .string (strOfNums s)].toArray (rdP b D :: L) (fun v L' => v = .int .i64 (D.wE i s.length) ∧ L' = rdP b (D.wS i s) :: L) := by
  refine Tr.open_rd fun p1 c1 p2 c2 p3 c3 h1 h2 h3 hOK => ?_
  have hhn := hOK.hn
  have hfl := hOK.fl
  have hSO := RD.spend_OK hOK
  have hWO := RD.wS_OK hOK i s
  have cF := fun (x0 x1 x2 : Value) (L : List HP) => ref4_fails b (x0 := x0) (x1 := x1) (x2 := x2) (off := D.off) (aw := D.away) (T := 112) (L := L) hOK.bu
  have R : ∀ {e : Int}, D.wE i s.length = e → e = 4 ∨ e = 1 → D.wS i s = D := fun h1 h2 => by rw [RD.wS, h1, if_pos h2]
  have R' : ∀ {e : Int}, D.wE i s.length = e → e = 9 ∨ e = 10 → D.wS i s = D.spend := fun h1 h2 => by rw [RD.wS, h1, if_neg (by omega), if_neg (by omega)]
  by_cases hi : i < 0 ∨ (D.has.length : Int) ≤ i
  · have he : D.wE i s.length = 4 := by rw [RD.wE, if_pos hi]
    rw [R he (.inl rfl), he]
    refine tr_enter Tryd.func57 rfl Tryd.ntmps57 rfl fun w0 => ?_
    by_cases hi0 : i < 0
    · repeat' (first
    | refine swl_op ?_
    | (refine s1_move ?_; refine sc_r (R_move (by rfl)) (by rfl) ?_)
    | (refine s1_assign ?_; refine sc_r (R_assign (by rfl)) (by rfl) ?_)
    | (refine s1_pick ?_; refine sc_r (R_pick_t (by rfl) (by rfl)) (by rfl) ?_)
    | (refine s1_bin ?_; refine sc_r (R_lss (by rfl) (by rfl)) (by rfl) ?_)
    | refine swl_nil ?_
    | refine sx_next ?_
    | refine sw_seq ?_
    | refine sw_region ?_
    | refine swl_g_off (by rfl) (by rfl) (by rfl) (by rfl) ?_
    | refine swl_g_pos (by rfl) (by rfl) (by first | assumption | omega) ?_
    | refine sx_past_ret ?_
    | refine sw_cond_true (by rfl) ?_
    | refine sw_ret ?_
    | fail)
      refine sx_ret_of (res1 rfl (ResOne.tmp rfl)) _ ⟨rfl, rfl⟩ (Ent.trans ?_ (rd_close hOK (s1 := .slice p1 D.has.length c1) (s2 := .slice p2 D.faults.length c2) (s3 := .slice p3 D.wait.length c3)))
      (repeat (first | exact Ent.refl _ | exact Ent.nil | (apply Ent.pick; focus ((repeat (first | exact Rem.here | apply Rem.there)); done)) | apply Ent.drop))
    · repeat' (first
    | refine swl_op ?_
    | (refine s1_move ?_; refine sc_r (R_move (by rfl)) (by rfl) ?_)
    | (refine s1_load ?_; refine sc_r (L_load' (by rfl) (by infer_instance) (by rfl)) (by rfl) ?_)
    | (refine s1_fieldAddr ?_; refine sc_r (R_fieldAddr (by rfl)) (by rfl) ?_)
    | (refine s1_assign ?_; refine sc_r (R_assign (by rfl)) (by rfl) ?_)
    | (refine s1_pick ?_; refine sc_r (R_pick_f (by rfl) (by rfl)) (by rfl) ?_)
    | (refine s1_bin ?_; first | refine sc_r (R_lss (by rfl) (by rfl)) (by rfl) ?_ | refine sc_r (R_geq (by rfl) (by rfl)) (by rfl) ?_)
    | (refine s1_call ?_; refine sc_r (R_len (by rfl)) (by rfl) ?_)
    | (refine s1_any ?_; refine sc_r (R_nilCheck (by rfl)) (by rfl) ?_)
    | refine swl_nil ?_
    | refine sx_next ?_
    | refine sw_seq ?_
    | refine sw_region ?_
    | refine swl_g_on (by rfl) (by rfl) ?_
    | refine swl_g_neg (by rfl) (by rfl) (by first | assumption | omega) ?_
    | refine sx_past_ret ?_
    | refine sw_cond_pos (by rfl) (by first | assumption | omega) ?_
    | refine sw_ret ?_
    | fail)
      refine sx_ret_of (res1 rfl (ResOne.tmp rfl)) _ ⟨rfl, rfl⟩ (Ent.trans ?_ (rd_close hOK (s1 := .slice p1 D.has.length c1) (s2 := .slice p2 D.faults.length c2) (s3 := .slice p3 D.wait.length c3)))
      (repeat (first | exact Ent.refl _ | exact Ent.nil | (apply Ent.pick; focus ((repeat (first | exact Rem.here | apply Rem.there)); done)) | apply Ent.drop))
  · by_cases hs : s.length = 128
    · by_cases hF : rF D.budget D.off = true
      · have he : D.wE i s.length = 10 := by rw [RD.wE, if_neg hi, if_neg (by omega), RD.F, hF]; rfl
        rw [R' he (.inr rfl), he]
        have hspo : D.spend.off = true := hF
        rw [hF] at cF
        refine tr_enter Tryd.func57 rfl Tryd.ntmps57 rfl fun w0 => ?_
        repeat' (first
    | refine swl_op ?_
    | (refine s1_move ?_; refine sc_r (R_move (by rfl)) (by rfl) ?_)
    | (refine s1_load ?_; refine sc_r (L_load' (by rfl) (by infer_instance) (by rfl)) (by rfl) ?_)
    | (refine s1_fieldAddr ?_; refine sc_r (R_fieldAddr (by rfl)) (by rfl) ?_)
    | (refine s1_assign ?_; refine sc_r (R_assign (by rfl)) (by rfl) ?_)
    | (refine s1_pick ?_; refine sc_r (R_pick_f (by rfl) (by rfl)) (by rfl) ?_)
    | (refine s1_bin ?_; first | refine sc_r (R_lss (by rfl) (by rfl)) (by rfl) ?_ | refine sc_r (R_geq (by rfl) (by rfl)) (by rfl) ?_ | refine sc_r (R_neq (by rfl) (by rfl)) (by rfl) ?_)
    | (refine s1_call ?_; first | (refine sc_c (by rfl) (C_call (by rfl) (by infer_instance) (by rfl) (by rfl) (cF _ _ _ _)) (by rfl) ?_; rintro _ _ ⟨rfl, rfl⟩) | refine sc_r (R_len_S (by rfl)) (by rfl) ?_ | refine sc_r (R_len (by rfl)) (by rfl) ?_)
    | (refine s1_any ?_; refine sc_r (R_nilCheck (by rfl)) (by rfl) ?_)
    | refine swl_nil ?_
    | refine sx_next ?_
    | refine sw_seq ?_
    | refine sw_region ?_
    | refine swl_g_on (by rfl) (by rfl) ?_
    | refine swl_g_neg (by rfl) (by rfl) (by first | assumption | omega) ?_
    | refine sx_past_ret ?_
    | refine sw_cond_true (by rfl) ?_
    | refine sw_cond_neg (by rfl) (by first | assumption | omega) ?_
    | refine sw_cond_npos (by rfl) (by first | assumption | omega) ?_
    | refine sw_ret ?_
    | refine sw_skip ?_
    | fail)
        refine sx_ret_of (res1 rfl (ResOne.tmp rfl)) _ ⟨rfl, rfl⟩ (Ent.trans ?_ (rd_close hSO (s1 := .slice p1 D.has.length c1) (s2 := .slice p2 D.faults.length c2) (s3 := .slice p3 D.wait.length c3)))
        rw [hspo]
        (repeat (first | exact Ent.refl _ | exact Ent.nil | (apply Ent.pick; focus ((repeat (first | exact Rem.here | apply Rem.there)); done)) | apply Ent.drop))
      · have hF' : rF D.budget D.off = false := by simpa using hF
        have hspo : D.spend.off = false := hF'
        rw [hF'] at cF
        obtain ⟨I, rfl⟩ := Int.eq_ofNat_of_zero_le (show 0 ≤ i by omega)
        have hIl : I < D.faults.length := by omega
        have hgf : (D.faults.map i64c).getD ((I : Int).toNat) #[] = #[Value.int .i64 (D.faults.getD (I : Int).toNat 0)] := by simp [hIl, i64c]
        obtain ⟨b2, o2, rfl⟩ := h2.ptr (by omega)
        by_cases haw : D.away = true
        · have he : D.wE I s.length = 9 := by rw [RD.wE, if_neg hi, if_neg (by omega), RD.F, hF', if_neg (by simp), if_pos (.inl haw)]
          rw [R' he (.inl rfl), he]
          have haw' : D.spend.away = true := haw
          rw [haw] at cF ⊢
          refine tr_enter Tryd.func57 rfl Tryd.ntmps57 rfl fun w0 => ?_
          repeat' (first
    | refine swl_op ?_
    | (refine s1_move ?_; refine sc_r (R_move (by rfl)) (by rfl) ?_)
    | (refine s1_load ?_; refine sc_r (L_load' (by rfl) (by infer_instance) (by rfl)) (by rfl) ?_)
    | (refine s1_fieldAddr ?_; refine sc_r (R_fieldAddr (by rfl)) (by rfl) ?_)
    | (refine s1_assign ?_; refine sc_r (R_assign (by rfl)) (by rfl) ?_)
    | (refine s1_pick ?_; first | refine sc_r (R_pick_t (by rfl) (by rfl)) (by rfl) ?_ | refine sc_r (R_pick_f (by rfl) (by rfl)) (by rfl) ?_)
    | (refine s1_bin ?_; first | refine sc_r (R_lss (by rfl) (by rfl)) (by rfl) ?_ | refine sc_r (R_geq (by rfl) (by rfl)) (by rfl) ?_ | refine sc_r (R_neq (by rfl) (by rfl)) (by rfl) ?_)
    | (refine s1_call ?_; first | (refine sc_c (by rfl) (C_call (by rfl) (by infer_instance) (by rfl) (by rfl) (cF _ _ _ _)) (by rfl) ?_; rintro _ _ ⟨rfl, rfl⟩) | refine sc_r (R_len_S (by rfl)) (by rfl) ?_ | refine sc_r (R_len (by rfl)) (by rfl) ?_)
    | (refine s1_any ?_; refine sc_r (R_nilCheck (by rfl)) (by rfl) ?_)
    | refine swl_nil ?_
    | refine sx_next ?_
    | refine sw_seq ?_
    | refine sw_region ?_
    | refine swl_g_on (by rfl) (by rfl) ?_
    | refine swl_g_off (by rfl) (by rfl) (by rfl) (by rfl) ?_
    | refine sx_past_ret ?_
    | refine sw_cond_true (by rfl) ?_
    | refine sw_cond_false (by rfl) ?_
    | refine sw_cond_neg (by rfl) (by first | assumption | omega) ?_
    | refine sw_cond_npos (by rfl) (by first | assumption | omega) ?_
    | refine sw_ret ?_
    | refine sw_skip ?_
    | fail)
          refine sx_ret_of (res1 rfl (ResOne.tmp rfl)) _ ⟨rfl, rfl⟩ (Ent.trans ?_ (rd_close hSO (s1 := .slice p1 D.has.length c1) (s2 := .slice (some ⟨b2, o2, none⟩) D.faults.length c2) (s3 := .slice p3 D.wait.length c3)))
          rw [hspo, haw']
          (repeat (first | exact Ent.refl _ | exact Ent.nil | (apply Ent.pick; focus ((repeat (first | exact Rem.here | apply Rem.there)); done)) | apply Ent.drop))
        · have haw' : D.away = false := by simpa using haw
          have haw2 : D.spend.away = false := haw'
          rw [haw'] at cF ⊢
          by_cases hft : 1 < D.faults.getD (I : Int).toNat 0
          · have he : D.wE I s.length = 9 := by rw [RD.wE, if_neg hi, if_neg (by omega), RD.F, hF', if_neg (by simp), if_pos (.inr hft)]
            rw [R' he (.inl rfl), he]
            refine tr_enter Tryd.func57 rfl Tryd.ntmps57 rfl fun w0 => ?_
            repeat' (first
    | refine swl_op ?_
    | (refine s1_move ?_; refine sc_r (R_move (by rfl)) (by rfl) ?_)
    | (refine s1_load ?_; first | refine sc_r (L_load' (by rfl) (by infer_instance) (by rfl)) (by rfl) ?_ | refine sc_r (L_load_el1 (by rfl) (by infer_instance) (by omega) (by first | assumption | rfl)) (by rfl) ?_)
    | (refine s1_fieldAddr ?_; refine sc_r (R_fieldAddr (by rfl)) (by rfl) ?_)
    | (refine s1_assign ?_; refine sc_r (R_assign (by rfl)) (by rfl) ?_)
    | (refine s1_pick ?_; refine sc_r (R_pick_f (by rfl) (by rfl)) (by rfl) ?_)
    | (refine s1_bin ?_; first | refine sc_r (R_lss (by rfl) (by rfl)) (by rfl) ?_ | refine sc_r (R_gtr (by rfl) (by rfl)) (by rfl) ?_ | refine sc_r (R_geq (by rfl) (by rfl)) (by rfl) ?_ | refine sc_r (R_neq (by rfl) (by rfl)) (by rfl) ?_)
    | (refine s1_call ?_; first | (refine sc_c (by rfl) (C_call (by rfl) (by infer_instance) (by rfl) (by rfl) (cF _ _ _ _)) (by rfl) ?_; rintro _ _ ⟨rfl, rfl⟩) | refine sc_r (R_len_S (by rfl)) (by rfl) ?_ | refine sc_r (R_len (by rfl)) (by rfl) ?_)
    | (refine s1_indexAddr ?_; refine sc_r (R_indexAddr (by rfl) (by rfl) (by omega)) (by rfl) ?_)
    | (refine s1_any ?_; refine sc_r (R_nilCheck (by rfl)) (by rfl) ?_)
    | refine swl_nil ?_
    | refine sx_next ?_
    | refine sw_seq ?_
    | refine sw_region ?_
    | refine swl_g_on (by rfl) (by rfl) ?_
    | refine sx_past_ret ?_
    | refine sw_cond_false (by rfl) ?_
    | refine sw_cond_pos (by rfl) (by first | assumption | omega) ?_
    | refine sw_cond_neg (by rfl) (by first | assumption | omega) ?_
    | refine sw_cond_npos (by rfl) (by first | assumption | omega) ?_
    | refine sw_ret ?_
    | refine sw_skip ?_
    | fail)
            refine sx_ret_of (res1 rfl (ResOne.tmp rfl)) _ ⟨rfl, rfl⟩ (Ent.trans ?_ (rd_close hSO (s1 := .slice p1 D.has.length c1) (s2 := .slice (some ⟨b2, o2, none⟩) D.faults.length c2) (s3 := .slice p3 D.wait.length c3)))
            rw [hspo, haw2]
            (repeat (first | exact Ent.refl _ | exact Ent.nil | (apply Ent.pick; focus ((repeat (first | exact Rem.here | apply Rem.there)); done)) | apply Ent.drop))
          · have he : D.wE I s.length = 0 := by rw [RD.wE, if_neg hi, if_neg (by omega), RD.F, hF', if_neg (by simp), if_neg (by simp [haw']; simpa using hft)]
            have hw : D.wS I s = { D.spend with wait := D.wait ++ [(I, s)] } := by rw [RD.wS, he, if_neg (by omega), if_pos rfl]; rfl
            rw [hw] at hWO
            rw [hw, he]
            refine tr_enter Tryd.func57 rfl Tryd.ntmps57 rfl fun w0 => ?_
            repeat' (first
    | refine swl_op ?_
    | (refine s1_move ?_; refine sc_r (R_move (by rfl)) (by rfl) ?_)
    | (refine s1_load ?_; first | refine sc_r (L_load' (by rfl) (by infer_instance) (by rfl)) (by rfl) ?_ | refine sc_r (L_load_el1 (by rfl) (by infer_instance) (by omega) (by first | assumption | rfl)) (by rfl) ?_)
    | (refine s1_fieldAddr ?_; refine sc_r (R_fieldAddr (by rfl)) (by rfl) ?_)
    | (refine s1_assign ?_; refine sc_r (R_assign (by rfl)) (by rfl) ?_)
    | (refine s1_pick ?_; refine sc_r (R_pick_f (by rfl) (by rfl)) (by rfl) ?_)
    | (refine s1_bin ?_; first | refine sc_r (R_lss (by rfl) (by rfl)) (by rfl) ?_ | refine sc_r (R_gtr (by rfl) (by rfl)) (by rfl) ?_ | refine sc_r (R_geq (by rfl) (by rfl)) (by rfl) ?_ | refine sc_r (R_neq (by rfl) (by rfl)) (by rfl) ?_)
    | (refine s1_call ?_; first | (refine sc_c (by rfl) (C_call (by rfl) (by infer_instance) (by rfl) (by rfl) (cF _ _ _ _)) (by rfl) ?_; rintro _ _ ⟨rfl, rfl⟩) | refine sc_r (R_len_S (by rfl)) (by rfl) ?_ | (refine sc_w (by rfl) (W_appendA (by rfl) (by rfl) (by focus ((repeat (first | exact Rem.here | apply Rem.there)); done)) (by infer_instance) (sizesL_mem (by rfl)) (onesL_mem (by rfl)) (by simp only [List.length_map]; omega)) (by rfl) ?_; rintro vv _ rfl; refine swl_know (fun h H => vec_fact H) ?_; rintro ⟨pv, cv, rfl, hv⟩) | refine sc_r (R_len (by rfl)) (by rfl) ?_)
    | (refine s1_indexAddr ?_; refine sc_r (R_indexAddr (by rfl) (by rfl) (by omega)) (by rfl) ?_)
    | (refine s1_store ?_; (refine sc_w (by rfl) (W_storeL (by rfl) (by rfl) (by infer_instance) (by rfl) (by rfl) (by rfl)) (by rfl) ?_; rintro _ _ ⟨rfl, rfl⟩))
    | (refine s1_any ?_; first | refine sc_r (R_buildL (by rfl) (by rfl)) (by rfl) ?_ | (refine sc_w (by rfl) (W_buildSliceV (by rfl) (by rfl) (by rfl) (by rfl) (by rfl) (by rfl) (by rfl)) (by rfl) ?_; rintro _ _ ⟨_, rfl, rfl, _, _⟩) | refine sc_r (R_nilCheck (by rfl)) (by rfl) ?_)
    | refine swl_nil ?_
    | refine sx_next ?_
    | refine sw_seq ?_
    | refine sw_region ?_
    | refine swl_g_on (by rfl) (by rfl) ?_
    | refine sw_cond_false (by rfl) ?_
    | refine sw_cond_neg (by rfl) (by first | assumption | omega) ?_
    | refine sw_cond_npos (by rfl) (by first | assumption | omega) ?_
    | refine sw_ret ?_
    | refine sw_skip ?_
    | fail)
            refine sx_ret_of (res1 rfl (ResOne.tmp rfl)) _ ⟨rfl, rfl⟩ (Ent.trans ?_ (rd_close hWO (s1 := .slice p1 D.has.length c1) (s2 := .slice (some ⟨b2, o2, none⟩) D.faults.length c2) (s3 := .slice pv (D.wait.map waitC ++ [waitC (I, s)]).length cv)))
            rw [show ({ D.spend with wait := D.wait ++ [(I, s)] } : RD).wait.map waitC = D.wait.map waitC ++ [waitC (I, s)] by simp, show ({ D.spend with wait := D.wait ++ [(I, s)] } : RD).off = false from hspo, show ({ D.spend with wait := D.wait ++ [(I, s)] } : RD).away = false from haw2]
            (repeat (first | exact Ent.refl _ | exact Ent.nil | (apply Ent.pick; focus ((repeat (first | exact Rem.here | apply Rem.there)); done)) | apply Ent.drop))
    · have he : D.wE i s.length = 1 := by rw [RD.wE, if_neg hi, if_pos hs]
      rw [R he (.inr rfl), he]
      refine tr_enter Tryd.func57 rfl Tryd.ntmps57 rfl fun w0 => ?_
      repeat' (first
    | refine swl_op ?_
    | (refine s1_move ?_; refine sc_r (R_move (by rfl)) (by rfl) ?_)
    | (refine s1_load ?_; refine sc_r (L_load' (by rfl) (by infer_instance) (by rfl)) (by rfl) ?_)
    | (refine s1_fieldAddr ?_; refine sc_r (R_fieldAddr (by rfl)) (by rfl) ?_)
    | (refine s1_assign ?_; refine sc_r (R_assign (by rfl)) (by rfl) ?_)
    | (refine s1_pick ?_; refine sc_r (R_pick_f (by rfl) (by rfl)) (by rfl) ?_)
    | (refine s1_bin ?_; first | refine sc_r (R_lss (by rfl) (by rfl)) (by rfl) ?_ | refine sc_r (R_geq (by rfl) (by rfl)) (by rfl) ?_ | refine sc_r (R_neq (by rfl) (by rfl)) (by rfl) ?_)
    | (refine s1_call ?_; first | refine sc_r (R_len_S (by rfl)) (by rfl) ?_ | refine sc_r (R_len (by rfl)) (by rfl) ?_)
    | (refine s1_any ?_; refine sc_r (R_nilCheck (by rfl)) (by rfl) ?_)
    | refine swl_nil ?_
    | refine sx_next ?_
    | refine sw_seq ?_
    | refine sw_region ?_
    | refine swl_g_on (by rfl) (by rfl) ?_
    | refine swl_g_neg (by rfl) (by rfl) (by first | assumption | omega) ?_
    | refine sx_past_ret ?_
    | refine sw_cond_neg (by rfl) (by first | assumption | omega) ?_
    | refine sw_cond_nneg (by rfl) (by first | assumption | omega) ?_
    | refine sw_ret ?_
    | refine sw_skip ?_
    | fail)
      refine sx_ret_of (res1 rfl (ResOne.tmp rfl)) _ ⟨rfl, rfl⟩ (Ent.trans ?_ (rd_close hOK (s1 := .slice p1 D.has.length c1) (s2 := .slice p2 D.faults.length c2) (s3 := .slice p3 D.wait.length c3)))
      (repeat (first | exact Ent.refl _ | exact Ent.nil | (apply Ent.pick; focus ((repeat (first | exact Rem.here | apply Rem.there)); done)) | apply Ent.drop))

set_option maxHeartbeats 2000000 in
theorem ref4_Flush (b : Nat) (D : RD) {L : List HP} : Tr Tryd.prog 59 [.pointer (some ⟨b, 0, none⟩)].toArray (rdP b D :: L) (fun v L' => v = .int .i64 D.eE ∧ L' = rdP b D.fS :: L) := by
  refine Tr.open_rd fun p1 c1 p2 c2 p3 c3 h1 h2 h3 hOK => ?_
  refine tr_enter Tryd.func59 rfl Tryd.ntmps59 rfl fun w0 => ?_
  have cF := fun (x0 x1 x2 : Value) (L : List HP) => ref4_fails b (x0 := x0) (x1 := x1) (x2 := x2) (off := D.off) (aw := D.away) (T := 112) (L := L) hOK.bu
  have hhn := hOK.hn
  have hES := RD.fS_OK hOK
  have hSO := RD.spend_OK hOK
  by_cases hF : rF D.budget D.off = true
  · have he : D.eE = 10 := by simp [RD.eE, RD.F, hF]
    have hs : D.fS = D.spend := by simp [RD.fS, he]
    rw [he, hs]
    have hspo : D.spend.off = true := hF
    rw [hF] at cF
    repeat' (first
    | refine swl_op ?_
    | (refine s1_move ?_; refine sc_r (R_move (by rfl)) (by rfl) ?_)
    | (refine s1_assign ?_; refine sc_r (R_assign (by rfl)) (by rfl) ?_)
    | (refine s1_call ?_; (refine sc_c (by rfl) (C_call (by rfl) (by infer_instance) (by rfl) (by rfl) (cF _ _ _ _)) (by rfl) ?_; rintro _ _ ⟨rfl, rfl⟩))
    | refine swl_nil ?_
    | refine sx_next ?_
    | refine sw_seq ?_
    | refine sw_region ?_
    | refine sx_past_ret ?_
    | refine sw_cond_true (by rfl) ?_
    | refine sw_ret ?_
    | fail)
    refine sx_ret_of (res1 rfl (ResOne.tmp rfl)) _ ⟨rfl, rfl⟩ (Ent.trans ?_ (rd_close hSO (s1 := .slice p1 D.has.length c1) (s2 := .slice p2 D.faults.length c2) (s3 := .slice p3 D.wait.length c3)))
    rw [hspo]
    (repeat (first | exact Ent.refl _ | exact Ent.nil | (apply Ent.pick; focus ((repeat (first | exact Rem.here | apply Rem.there)); done)) | apply Ent.drop))
  · have hF' : rF D.budget D.off = false := by simpa using hF
    rw [hF'] at cF
    have hspo : D.spend.off = false := hF'
    by_cases haw : D.away = true
    · have he : D.eE = 9 := by simp [RD.eE, RD.F, hF', haw]
      have hs : D.fS = D.spend := by simp [RD.fS, he]
      rw [he, hs]
      have haw' : D.spend.away = true := haw
      rw [haw] at cF ⊢
      repeat' (first
    | refine swl_op ?_
    | (refine s1_move ?_; refine sc_r (R_move (by rfl)) (by rfl) ?_)
    | (refine s1_load ?_; refine sc_r (L_load' (by rfl) (by infer_instance) (by rfl)) (by rfl) ?_)
    | (refine s1_fieldAddr ?_; refine sc_r (R_fieldAddr (by rfl)) (by rfl) ?_)
    | (refine s1_assign ?_; refine sc_r (R_assign (by rfl)) (by rfl) ?_)
    | (refine s1_call ?_; (refine sc_c (by rfl) (C_call (by rfl) (by infer_instance) (by rfl) (by rfl) (cF _ _ _ _)) (by rfl) ?_; rintro _ _ ⟨rfl, rfl⟩))
    | (refine s1_any ?_; refine sc_r (R_nilCheck (by rfl)) (by rfl) ?_)
    | refine swl_nil ?_
    | refine sx_next ?_
    | refine sw_seq ?_
    | refine sw_region ?_
    | refine sx_past_ret ?_
    | refine sw_cond_true (by rfl) ?_
    | refine sw_cond_false (by rfl) ?_
    | refine sw_ret ?_
    | refine sw_skip ?_
    | fail)
      refine sx_ret_of (res1 rfl (ResOne.tmp rfl)) _ ⟨rfl, rfl⟩ (Ent.trans ?_ (rd_close hSO (s1 := .slice p1 D.has.length c1) (s2 := .slice p2 D.faults.length c2) (s3 := .slice p3 D.wait.length c3)))
      rw [hspo, haw']
      (repeat (first | exact Ent.refl _ | exact Ent.nil | (apply Ent.pick; focus ((repeat (first | exact Rem.here | apply Rem.there)); done)) | apply Ent.drop))
    · have haw' : D.away = false := by simpa using haw
      have he : D.eE = 0 := by simp [RD.eE, RD.F, hF', haw']
      have hs : D.fS = { D.spend with has := fl1 D.has D.wait, wait := [] } := by simp [RD.fS, he]
      rw [hs] at hES
      rw [he, hs]
      rw [haw'] at cF ⊢
      have hwb := h3.bd
      repeat' (first
    | refine swl_op ?_
    | (refine s1_move ?_; refine sc_r (R_move (by rfl)) (by rfl) ?_)
    | (refine s1_load ?_; refine sc_r (L_load' (by rfl) (by infer_instance) (by rfl)) (by rfl) ?_)
    | (refine s1_fieldAddr ?_; refine sc_r (R_fieldAddr (by rfl)) (by rfl) ?_)
    | (refine s1_assign ?_; refine sc_r (R_assign (by rfl)) (by rfl) ?_)
    | (refine s1_call ?_; (refine sc_c (by rfl) (C_call (by rfl) (by infer_instance) (by rfl) (by rfl) (cF _ _ _ _)) (by rfl) ?_; rintro _ _ ⟨rfl, rfl⟩))
    | (refine s1_any ?_; refine sc_r (R_nilCheck (by rfl)) (by rfl) ?_)
    | refine swl_nil ?_
    | refine sx_next ?_
    | refine sw_seq ?_
    | refine sw_region ?_
    | refine sw_block ?_
    | refine sw_cond_false (by rfl) ?_
    | refine sw_skip ?_
    | fail)
      refine sw_loop (γ := Nat) (fun g => D.wait.length - g) (fun g => [(0, .pointer (some ⟨b, 0, none⟩)), (3, .int .i64 g)])
        (fun g => vec 9 1 ((fl1 D.has (D.wait.take g)).map strC) (.slice p1 D.has.length c1) :: pt b (.cells #[.slice p1 D.has.length c1, .slice p2 D.faults.length c2, .slice p3 D.wait.length c3, .int .i64 (rB D.budget D.off), .bool false, .bool false] 112) ::
          vec 3 1 (D.faults.map i64c) (.slice p2 D.faults.length c2) :: vec 155 2 (D.wait.map waitC) (.slice p3 D.wait.length c3) :: L) (fun g => g ≤ D.wait.length) 0 (by omega)
        (subE.cons rfl (subE.cons rfl subE.nil)) (by simp only [List.take_zero]; (repeat (first | exact Ent.refl _ | exact Ent.nil | (apply Ent.pick; focus ((repeat (first | exact Rem.here | apply Rem.there)); done)) | apply Ent.drop))) ?_
      intro i hi
      by_cases hlt : i < D.wait.length
      · have hx := hOK.w _ (List.getElem_mem hlt)
        have hg : (D.wait.map waitC).getD i #[] = #[.int .i64 D.wait[i].1, .string (strOfNums D.wait[i].2)] := by simp [hlt, waitC]
        have hset : ((fl1 D.has (D.wait.take i)).map strC).set D.wait[i].1 #[.string (strOfNums D.wait[i].2)] = (fl1 D.has (D.wait.take (i + 1))).map strC := by
          rw [List.take_succ_eq_append_getElem hlt, fl1, fl1, List.foldl_append]
          simp only [List.foldl_cons, List.foldl_nil, List.map_set]; rfl
        have hli : D.wait[i].1 < ((fl1 D.has (D.wait.take i)).map strC).length := by rw [List.length_map, fl1_len]; exact hx
        obtain ⟨bb, oo, rfl⟩ := h1.ptr (by omega)
        obtain ⟨b3, o3, rfl⟩ := h3.ptr (by omega)
        generalize D.wait[i] = x at *
        generalize (fl1 D.has (D.wait.take i)).map strC = els at *
        repeat' (first
    | (refine s1_load ?_; refine sc_r (L_load_elf (by rfl) (by infer_instance) (by omega) hg (by rfl) (by rfl)) (by rfl) ?_)
    | refine swl_op ?_
    | (refine s1_move ?_; refine sc_r (R_move (by rfl)) (by rfl) ?_)
    | (refine s1_load ?_; refine sc_r (L_load' (by rfl) (by infer_instance) (by rfl)) (by rfl) ?_)
    | (refine s1_fieldAddr ?_; refine sc_r (R_fieldAddr (by rfl)) (by rfl) ?_)
    | (refine s1_assign ?_; refine sc_r (R_assign (by rfl)) (by rfl) ?_)
    | (refine s1_bin ?_; first | refine sc_r (R_lss (by rfl) (by rfl)) (by rfl) ?_ | refine sc_r (R_add64 (by rfl) (by rfl) (by omega)) (by rfl) ?_)
    | (refine s1_call ?_; refine sc_r (R_len (by rfl)) (by rfl) ?_)
    | (refine s1_indexAddr ?_; refine sc_r (R_indexAddr (by rfl) (by rfl) (by omega)) (by rfl) ?_)
    | (refine s1_store ?_; (refine sc_w (by rfl) (W_store_el1 (by rfl) (by rfl) (by focus ((repeat (first | exact Rem.here | apply Rem.there)); done)) (by rfl) hli) (by rfl) ?_; rintro _ _ ⟨rfl, rfl⟩; rw [hset]))
    | (refine s1_any ?_; refine sc_r (R_nilCheck (by rfl)) (by rfl) ?_)
    | refine swl_nil ?_
    | refine sx_next ?_
    | refine sw_seq ?_
    | refine sw_region ?_
    | refine sw_block ?_
    | refine sx_block_normal ?_
    | refine sw_cond_pos (by rfl) (by first | assumption | omega) ?_
    | refine sw_skip ?_
    | refine swh_lt (by rfl) (fun _ _ => wanted_none) ?_
    | refine swh_hv (by rfl) (fun _ _ => wanted_none) ?_
    | refine swh_nil ?_
    | (apply And.intro; focus ((repeat (first | exact Ent.refl _ | exact Ent.nil | (apply Ent.pick; focus ((repeat (first | exact Rem.here | apply Rem.there)); done)) | apply Ent.drop)); done))
    | (refine sw_region_draw (pt b (.cells #[.slice (some ⟨bb, oo, none⟩) D.has.length c1, .slice p2 D.faults.length c2, .slice (some ⟨b3, o3, none⟩) D.wait.length c3, .int .i64 (rB D.budget D.off), .bool false, .bool false] 112) :: vec 155 2 (D.wait.map waitC) (.slice (some ⟨b3, o3, none⟩) D.wait.length c3) :: L) [(0, true), (1, true), (2, true), (3, true), (4, true), (5, true), (6, true), (7, true), (8, true), (9, true), (10, true), (11, true), (12, true), (13, true), (14, true), (15, true), (16, true), (17, true), (18, true), (19, true), (20, true), (21, false)] follows ?_ ?_ ?_ ?_; (focus rfl); (focus (decide +kernel)); (focus ((repeat (first | exact Ent.refl _ | exact Ent.nil | (apply Ent.pick; focus ((repeat (first | exact Rem.here | apply Rem.there)); done)) | apply Ent.drop)); done)))
    | fail)
        exact sx_back (i + 1) (by omega) (by omega) (subE.cons rfl (subE.cons rfl subE.nil)) (by (repeat (first | exact Ent.refl _ | exact Ent.nil | (apply Ent.pick; focus ((repeat (first | exact Rem.here | apply Rem.there)); done)) | apply Ent.drop)))
      · obtain rfl : i = D.wait.length := by omega
        rw [List.take_length]
        repeat' (first
    | refine swl_op ?_
    | (refine s1_move ?_; refine sc_r (R_move (by rfl)) (by rfl) ?_)
    | (refine s1_load ?_; refine sc_r (L_load' (by rfl) (by infer_instance) (by rfl)) (by rfl) ?_)
    | (refine s1_fieldAddr ?_; refine sc_r (R_fieldAddr (by rfl)) (by rfl) ?_)
    | (refine s1_assign ?_; refine sc_r (R_assign (by rfl)) (by rfl) ?_)
    | (refine s1_bin ?_; refine sc_r (R_lss (by rfl) (by rfl)) (by rfl) ?_)
    | (refine s1_call ?_; refine sc_r (R_len (by rfl)) (by rfl) ?_)
    | (refine s1_store ?_; (refine sc_w (by rfl) (W_storeL (by rfl) (by rfl) (by infer_instance) (by rfl) (by rfl) (by rfl)) (by rfl) ?_; rintro _ _ ⟨rfl, rfl⟩))
    | (refine s1_any ?_; refine sc_r (R_nilCheck (by rfl)) (by rfl) ?_)
    | refine swl_nil ?_
    | refine sx_next ?_
    | refine sw_seq ?_
    | refine sw_region ?_
    | refine sx_past_exit ?_
    | refine sx_block_here ?_
    | refine sw_cond_neg (by rfl) (by first | assumption | omega) ?_
    | refine sw_ret ?_
    | refine sw_exit ?_
    | fail)
        refine sx_ret_of (res1 rfl (ResOne.tmp rfl)) _ ⟨rfl, rfl⟩ (Ent.trans ?_ (rd_close hES (s1 := .slice p1 D.has.length c1) (s2 := .slice p2 D.faults.length c2) (s3 := .slice none 0 0)))
        refine Ent.trans (Ent.vec_nil (e := 155) (k := 2)) ?_
        rw [show ({ D.spend with has := fl1 D.has D.wait, wait := [] } : RD).off = false from hspo, show ({ D.spend with has := fl1 D.has D.wait, wait := [] } : RD).away = false from haw']
        simp only [RD.spend, List.map_nil]
        (repeat (first | exact Ent.refl _ | exact Ent.nil | (apply Ent.pick; focus ((repeat (first | exact Rem.here | apply Rem.there)); done)) | apply Ent.drop))
end Go.Proofs.YtjdnflhejfcgdaaDoor

/-
  The document's own devices: several of them; media made of them.
-/
namespace Go.Proofs.YtjdnflhejfcgdaaDoor
open Go Go.SL Go.Proofs

/-- devices -/
def rdsP (l : List (Nat × RD)) : HP := st (l.map fun x => rdP x.1 x.2)
theorem rds_cut (l : List (Nat × RD)) (i : Nat) (h : i < l.length) {F : List HP} : Ent (rdsP l :: F) (rdP l[i].1 l[i].2 :: rdsP (l.take i) :: rdsP (l.drop (i + 1)) :: F) := by
  have e : l.map (fun x => rdP x.1 x.2) = (l.take i).map (fun x => rdP x.1 x.2) ++ (rdP l[i].1 l[i].2 :: (l.drop (i + 1)).map fun x => rdP x.1 x.2) := by
    have e0 : l = l.take i ++ l[i] :: l.drop (i + 1) := by rw [← List.drop_eq_getElem_cons h, List.take_append_drop]
    exact (congrArg (List.map fun x : Nat × RD => rdP x.1 x.2) e0).trans (by rw [List.map_append, List.map_cons])
  unfold rdsP
  rw [e]
  refine Ent.st_split.trans ?_
  refine Ent.trans (Ent.cons (Ent.open_st.trans (Ent.cons Ent.shut_st))) ?_
  exact Ent.of_perm (List.Perm.swap _ _ _)
theorem rds_put (l : List (Nat × RD)) (i : Nat) (h : i < l.length) (s : RD) {F : List HP} : Ent (rdP l[i].1 s :: rdsP (l.take i) :: rdsP (l.drop (i + 1)) :: F) (rdsP (l.set i (l[i].1, s)) :: F) := by
  have e : (l.set i (l[i].1, s)).map (fun x => rdP x.1 x.2) = (l.take i).map (fun x => rdP x.1 x.2) ++ (rdP l[i].1 s :: (l.drop (i + 1)).map fun x => rdP x.1 x.2) := by
    rw [List.set_eq_take_append_cons_drop, if_pos h]; simp
  unfold rdsP
  rw [e]
  refine Ent.trans ?_ Ent.st_join
  refine Ent.trans ?_ (Ent.cons (Ent.shut_st (A := rdP l[i].1 s :: (l.drop (i + 1)).map fun x => rdP x.1 x.2)))
  refine Ent.trans (Ent.of_perm (List.Perm.swap _ _ _)) ?_
  exact Ent.cons (Ent.cons Ent.open_st)
theorem rds_same (l : List (Nat × RD)) (i : Nat) (h : i < l.length) {F : List HP} : Ent (rdP l[i].1 l[i].2 :: rdsP (l.take i) :: rdsP (l.drop (i + 1)) :: F) (rdsP l :: F) := by
  have := rds_put l i h l[i].2 (F := F)
  rwa [show l.set i (l[i].1, l[i].2) = l from List.set_getElem_self h] at this
theorem rds_nil {F : List HP} : Ent F (rdsP [] :: F) := by
  unfold rdsP
  exact Ent.shut_st (A := [])
theorem rds_snoc (l : List (Nat × RD)) (a : Nat) (s : RD) {F : List HP} : Ent (rdP a s :: rdsP l :: F) (rdsP (l ++ [(a, s)]) :: F) := by
  unfold rdsP
  rw [List.map_append]
  refine Ent.trans ?_ Ent.st_join
  refine Ent.trans (Ent.of_perm (List.Perm.swap _ _ _)) ?_
  exact Ent.cons (Ent.shut_st (A := [rdP a s]))


section
variable {P : Program} {w0 : World} {nt : Cx} {L : List HP} {env : Env} {Q : Exit → Act → World → Prop}
theorem sw_open_rd {b : Nat} {D : RD} {c : Code} (h : ∀ p1 c1 p2 c2 p3 c3, SlOK p1 D.has.length c1 → SlOK p2 D.faults.length c2 → SlOK p3 D.wait.length c3 → D.OK →
    SW P w0 nt (pt b (.cells #[.slice p1 D.has.length c1, .slice p2 D.faults.length c2, .slice p3 D.wait.length c3, .int .i64 D.budget, .bool D.off, .bool D.away] 112) :: vec 9 1 (D.has.map strC) (.slice p1 D.has.length c1) ::
      vec 3 1 (D.faults.map i64c) (.slice p2 D.faults.length c2) :: vec 155 2 (D.wait.map waitC) (.slice p3 D.wait.length c3) :: L) env c Q) : SW P w0 nt (rdP b D :: L) env c Q := .mk fun w a hs hr => by
  obtain ⟨p1, c1, p2, c2, p3, c3, h1, h2, h3, h4, H⟩ := rdP_open hs.own
  exact (h p1 c1 p2 c2 p3 c3 h1 h2 h3 h4).h w a ⟨hs.os, hs.tape, hs.output, hs.size, hs.drawn, H⟩ hr
end
def rfits (g : Geo) (D : RD) (l : List (Nat × RD)) : Prop := (D.has.length : Int) = 16 + 16 * g.disk ∧ (l.length : Int) = g.vols ∧ ∀ x ∈ l, (x.2.has.length : Int) = 1 + 16 * g.segs

set_option maxHeartbeats 1000000 in
theorem ref21_fits (g : Geo) (hm : mayG g = true) (d : Nat) (D : RD) (l : List (Nat × RD)) (hf : rfits g D l) {pv : Option Addr} {nv cv : Nat} {F : List HP} (hv : SlC F pv 1 nv cv ((l.map Prod.fst).map ptrc)) :
    Tr Tryd.prog 55 [.agg g.cells, .pointer (some ⟨d, 0, none⟩), .slice pv nv cv].toArray (rdP d D :: rdsP l :: F) (fun v L' => v = .bool true ∧ L' = rdP d D :: rdsP l :: F) := by
  obtain ⟨f1, f2, f3⟩ := hf
  have hg := mayG_is hm
  have hlen : l.length = nv := by simpa using hv.len
  refine Tr.open_rd fun p1 c1 p2 c2 p3 c3 h1 h2 h3 hOK => ?_
  refine tr_enter Tryd.func55 rfl Tryd.ntmps55 rfl fun w0 => ?_
  have cM := fun (L : List HP) => ref3_May' g _ hm (L := L)
  simp only [Geo.cells] at *
  repeat' (first
    | refine swl_op ?_
    | (refine s1_move ?_; refine sc_r (R_move (by rfl)) (by rfl) ?_)
    | (refine s1_load ?_; first | refine sc_r (L_load' (by rfl) (by infer_instance) (by rfl)) (by rfl) ?_ | refine sc_r (L_load_all (by rfl) (by infer_instance) (by rfl)) (by rfl) ?_)
    | (refine s1_fieldAddr ?_; refine sc_r (R_fieldAddr (by rfl)) (by rfl) ?_)
    | (refine s1_assign ?_; refine sc_r (R_assign (by rfl)) (by rfl) ?_)
    | (refine s1_pick ?_; refine sc_r (R_pick_f (by rfl) (by rfl)) (by rfl) ?_)
    | (refine s1_bin ?_; first | refine sc_r (R_add64 (by rfl) (by rfl) (by omega)) (by rfl) ?_ | refine sc_r (R_neq (by rfl) (by rfl)) (by rfl) ?_ | refine sc_r (R_mul64 (by rfl) (by rfl) (by first | assumption | omega)) (by rfl) ?_)
    | (refine s1_call ?_; first | (refine sc_c (by rfl) (C_call (by rfl) (by infer_instance) (by rfl) (by rfl) (cM _)) (by rfl) ?_; rintro _ _ ⟨rfl, rfl⟩) | refine sc_r (R_len (by rfl)) (by rfl) ?_)
    | (refine s1_box ?_; (refine sc_w (by rfl) (W_boxA (by rfl)) (by rfl) ?_; rintro _ _ ⟨_, rfl, rfl⟩))
    | (refine s1_any ?_; first | refine sc_r (R_not (by rfl)) (by rfl) ?_ | refine sc_r (R_nilCheck (by rfl)) (by rfl) ?_)
    | refine swl_nil ?_
    | refine sx_next ?_
    | refine sw_seq ?_
    | refine sw_region ?_
    | refine sw_block ?_
    | refine sw_cond_npos (by rfl) (by first | assumption | omega) ?_
    | refine sw_skip ?_
    | refine swh_lt (by rfl) (fun _ _ => wanted_none) ?_
    | refine swh_lt (by rfl) (wanted_on (by rfl) (by rfl)) ?_
    | refine swh_hv (by rfl) (fun _ _ => wanted_none) ?_
    | refine swh_g_npos (by rfl) (by rfl) (by rfl) (by first | assumption | omega) ?_
    | refine swh_nil ?_
    | (apply And.intro; focus ((repeat (first | exact Ent.refl _ | exact Ent.nil | (apply Ent.pick; focus ((repeat (first | exact Rem.here | apply Rem.there)); done)) | apply Ent.drop)); done))
    | (refine sw_draw [(0, true), (1, false), (2, true), (3, true), (4, true), (5, true), (6, true), (7, true), (8, true), (9, true), (10, true), (11, true), (12, true), (13, true), (14, true), (15, true), (16, true), (17, true), (18, true), (19, true), (20, true), (21, true)] follows ?_ ?_ ?_; (focus rfl); (focus (decide +kernel)))
    | fail)
  rename_i b3
  refine sw_loop (γ := Nat) (fun i => nv - i) (fun i => [(2, .slice pv nv cv), (3, .pointer (some ⟨b3, 0, none⟩)), (7, .int .i64 i)])
    (fun i => rdsP l :: pt b3 (.cells #[.int .i64 g.disk, .int .i64 g.lines, .int .i64 g.vols, .int .i64 g.segs] 46) :: rdP d D :: F) (fun i => i ≤ nv) 0 (by omega)
    (subE.cons rfl (subE.cons rfl (subE.cons rfl subE.nil))) ?_ ?_
  · refine Ent.trans (B := pt d (.cells #[.slice p1 D.has.length c1, .slice p2 D.faults.length c2, .slice p3 D.wait.length c3, .int .i64 D.budget, .bool D.off, .bool D.away] 112) :: vec 9 1 (D.has.map strC) (.slice p1 D.has.length c1) ::
      vec 3 1 (D.faults.map i64c) (.slice p2 D.faults.length c2) :: vec 155 2 (D.wait.map waitC) (.slice p3 D.wait.length c3) :: rdsP l :: pt b3 (.cells #[.int .i64 g.disk, .int .i64 g.lines, .int .i64 g.vols, .int .i64 g.segs] 46) :: F) (by (repeat (first | exact Ent.refl _ | exact Ent.nil | (apply Ent.pick; focus ((repeat (first | exact Rem.here | apply Rem.there)); done)) | apply Ent.drop))) (Ent.trans (rd_close hOK) (by (repeat (first | exact Ent.refl _ | exact Ent.nil | (apply Ent.pick; focus ((repeat (first | exact Rem.here | apply Rem.there)); done)) | apply Ent.drop))))
  intro i hi
  by_cases hlt : i < nv
  · have hi' : i < l.length := by omega
    have h3i := f3 _ (List.getElem_mem hi')
    obtain ⟨b1, o1, rfl⟩ := hv.ptr (by omega)
    have he1 : ((l.map Prod.fst).map ptrc).getD i #[] = #[.pointer (some ⟨l[i].1, 0, none⟩)] := by rw [ptr_get (by simpa using hi')]; simp
    have hsame := fun (F : List HP) => rds_same l i hi' (F := F)
    refine sw_ent (rds_cut l i hi') ?_
    generalize hX : l[i] = X at *
    obtain ⟨A, S⟩ := X
    dsimp only at *
    refine sw_open_rd fun p1' c1' p2' c2' p3' c3' h1' h2' h3' hOK' => ?_
    repeat' (first
    | refine swl_op ?_
    | (refine s1_move ?_; refine sc_r (R_move (by rfl)) (by rfl) ?_)
    | (refine s1_load ?_; first | refine sc_r (L_load' (by rfl) (by infer_instance) (by rfl)) (by rfl) ?_ | refine sc_r (L_load_el1 (by rfl) (by infer_instance) (by omega) (by first | assumption | rfl)) (by rfl) ?_)
    | (refine s1_fieldAddr ?_; refine sc_r (R_fieldAddr (by rfl)) (by rfl) ?_)
    | (refine s1_assign ?_; refine sc_r (R_assign (by rfl)) (by rfl) ?_)
    | (refine s1_bin ?_; first | refine sc_r (R_lss (by rfl) (by rfl)) (by rfl) ?_ | refine sc_r (R_add64 (by rfl) (by rfl) (by omega)) (by rfl) ?_ | refine sc_r (R_neq (by rfl) (by rfl)) (by rfl) ?_ | refine sc_r (R_mul64 (by rfl) (by rfl) (by first | assumption | omega)) (by rfl) ?_)
    | (refine s1_call ?_; refine sc_r (R_len (by rfl)) (by rfl) ?_)
    | (refine s1_indexAddr ?_; refine sc_r (R_indexAddr (by rfl) (by rfl) (by omega)) (by rfl) ?_)
    | (refine s1_any ?_; refine sc_r (R_nilCheck (by rfl)) (by rfl) ?_)
    | refine swl_nil ?_
    | refine sx_next ?_
    | refine sw_seq ?_
    | refine sw_region ?_
    | refine sw_block ?_
    | refine sx_block_normal ?_
    | refine sw_cond_pos (by rfl) (by first | assumption | omega) ?_
    | refine sw_cond_npos (by rfl) (by first | assumption | omega) ?_
    | refine sw_skip ?_
    | refine swh_lt (by rfl) (fun _ _ => wanted_none) ?_
    | refine swh_nil ?_
    | (refine sw_draw [(0, true), (1, true), (2, true), (3, true), (4, true), (5, true), (6, true), (7, true), (8, true), (9, true), (10, true), (11, true), (12, true)] follows ?_ ?_ ?_; (focus rfl); (focus (decide +kernel)))
    | fail)
    exact sx_back (i + 1) (by omega) (by omega) (subE.cons rfl (subE.cons rfl (subE.cons rfl subE.nil))) (Ent.trans (rd_close hOK') (Ent.trans (hsame _) (by (repeat (first | exact Ent.refl _ | exact Ent.nil | (apply Ent.pick; focus ((repeat (first | exact Rem.here | apply Rem.there)); done)) | apply Ent.drop)))))
  · obtain rfl : i = nv := by omega
    repeat' (first
    | refine swl_op ?_
    | (refine s1_move ?_; refine sc_r (R_move (by rfl)) (by rfl) ?_)
    | (refine s1_assign ?_; refine sc_r (R_assign (by rfl)) (by rfl) ?_)
    | (refine s1_bin ?_; refine sc_r (R_lss (by rfl) (by rfl)) (by rfl) ?_)
    | (refine s1_call ?_; refine sc_r (R_len (by rfl)) (by rfl) ?_)
    | refine swl_nil ?_
    | refine sx_next ?_
    | refine sw_seq ?_
    | refine sw_region ?_
    | refine sx_past_exit ?_
    | refine sx_block_here ?_
    | refine sw_cond_neg (by rfl) (by first | assumption | omega) ?_
    | refine sw_ret ?_
    | refine sw_exit ?_
    | fail)
    exact sx_ret_of (res1 rfl (ResOne.tmp rfl)) _ ⟨rfl, rfl⟩ (by (repeat (first | exact Ent.refl _ | exact Ent.nil | (apply Ent.pick; focus ((repeat (first | exact Rem.here | apply Rem.there)); done)) | apply Ent.drop)))

theorem newRD_eE (n : Nat) : (newRD n).eE = 0 := by simp [RD.eE, RD.F, newRD, rF]
theorem newRD_eS (n : Nat) : (newRD n).eS = newRD n := by
  rw [RD.eS, if_pos (newRD_eE n)]
  simp [newRD, RD.spend, rB, rF]
/-- a new device with a first block -/
def fmtRD (n : Nat) (s : List Int) : RD := ⟨(List.replicate n zeros128).set 0 s, List.replicate n 0, [], -1, false, false⟩
def waitRD (n : Nat) (s : List Int) : RD := ⟨List.replicate n zeros128, List.replicate n 0, [(0, s)], -1, false, false⟩
theorem newRD_wE {n : Nat} (h : 0 < n) {s : List Int} (hs : s.length = 128) : (newRD n).wE 0 s.length = 0 := by
  have h0 : ¬ ((0 : Int) < 0 ∨ ((newRD n).has.length : Int) ≤ 0) := by simp [newRD]; omega
  rw [RD.wE, if_neg h0, if_neg (by omega)]
  simp [RD.F, newRD, rF, List.getD, h]
theorem newRD_wS {n : Nat} (h : 0 < n) {s : List Int} (hs : s.length = 128) : (newRD n).wS 0 s = waitRD n s := by
  rw [RD.wS, newRD_wE h hs, if_neg (by omega), if_pos rfl]
  simp [newRD, waitRD, RD.spend, rB, rF]
theorem waitRD_eE (n : Nat) (s : List Int) : (waitRD n s).eE = 0 := by simp [RD.eE, RD.F, waitRD, rF]
theorem waitRD_fS (n : Nat) (s : List Int) : (waitRD n s).fS = fmtRD n s := by
  rw [RD.fS, if_pos (waitRD_eE n s)]
  simp [fmtRD, waitRD, RD.spend, rB, rF, fl1]
theorem rd_erase (b n : Nat) {L : List HP} : Tr Tryd.prog 56 [.pointer (some ⟨b, 0, none⟩)].toArray (rdP b (newRD n) :: L) (fun v L' => v = .int .i64 0 ∧ L' = rdP b (newRD n) :: L) := by
  have := ref4_Erase b (newRD n) (L := L)
  rwa [newRD_eE, newRD_eS] at this
theorem rd_write (b n : Nat) (h : 0 < n) (s : List Int) (hs : s.length = 128) {L : List HP} : Tr Tryd.prog 57 [.pointer (some ⟨b, 0, none⟩), .int .i64 0, .string (strOfNums s)].toArray (rdP b (newRD n) :: L) (fun v L' => v = .int .i64 0 ∧ L' = rdP b (waitRD n s) :: L) := by
  have := ref4_Write b (newRD n) 0 s (by simp [newRD]) (L := L)
  rwa [newRD_wE h hs, newRD_wS h hs] at this
theorem rd_flush (b n : Nat) (s : List Int) {L : List HP} : Tr Tryd.prog 59 [.pointer (some ⟨b, 0, none⟩)].toArray (rdP b (waitRD n s) :: L) (fun v L' => v = .int .i64 0 ∧ L' = rdP b (fmtRD n s) :: L) := by
  have := ref4_Flush b (waitRD n s) (L := L)
  rwa [waitRD_eE, waitRD_fS] at this

/-- a medium of the document at m, its generations apart -/
def rmP (m d : Nat) (g : Geo) (vp : Value) (gens : List Int) : HP := ex fun sv : Value => st [pt m (.cells #[.int .i64 g.disk, .int .i64 g.lines, .int .i64 g.vols, .int .i64 g.segs, .pointer (some ⟨d, 0, none⟩), vp, sv] 119), vec 3 1 (gens.map i64c) sv]
attribute [irreducible] rmP
theorem rm_close {m d : Nat} {g : Geo} {vp sv : Value} {gens : List Int} {L : List HP} :
    Ent (pt m (.cells #[.int .i64 g.disk, .int .i64 g.lines, .int .i64 g.vols, .int .i64 g.segs, .pointer (some ⟨d, 0, none⟩), vp, sv] 119) :: vec 3 1 (gens.map i64c) sv :: L) (rmP m d g vp gens :: L) := by
  unfold rmP
  refine Ent.trans ?_ (Ent.ex_intro sv)
  refine Ent.trans ?_ Ent.shut_st
  simp only [List.cons_append, List.nil_append]
  (repeat (first | exact Ent.refl _ | exact Ent.nil | (apply Ent.pick; focus ((repeat (first | exact Rem.here | apply Rem.there)); done)) | apply Ent.drop))
/-- the volumes, of which so many have their labels -/
def rvl (l : List Nat) (n k : Nat) : List (Nat × RD) := l.mapIdx fun i a => (a, if i < k then fmtRD n (labelR i 0) else newRD n)
theorem rvl_fst (l : List Nat) (n k : Nat) : (rvl l n k).map Prod.fst = l := by
  unfold rvl
  apply List.ext_getElem
  · simp
  · intro i h1 h2; simp
theorem rvl_len (l : List Nat) (n k : Nat) : (rvl l n k).length = l.length := by simp [rvl]
theorem rvl_at {l : List Nat} {n k : Nat} (h : k < (rvl l n k).length) : (rvl l n k)[k] = (l[k]'(by simpa [rvl] using h), newRD n) := by simp [rvl]
theorem rvl_set {l : List Nat} {n k : Nat} (h : k < l.length) : (rvl l n k).set k (l[k], fmtRD n (labelR k 0)) = rvl l n (k + 1) := by
  apply List.ext_getElem
  · simp [rvl]
  · intro i h1 h2
    rw [List.getElem_set]
    simp only [rvl, List.getElem_mapIdx]
    by_cases hik : k = i
    · subst hik; simp
    · rw [if_neg hik]
      have : (i < k + 1) = (i < k) := by simp; omega
      simp only [this]

set_option maxHeartbeats 4000000 in
theorem ref21_Format (g : Geo) (hm : mayG g = true) (d : Nat) (vs : List Nat) (hn : (vs.length : Int) = g.vols) {pv : Option Addr} {nv cv : Nat} {F : List HP} (hv : SlC F pv 1 nv cv (vs.map ptrc)) :
    Tr Tryd.prog 24 [.agg g.cells, .pointer (some ⟨d, 0, none⟩), .slice pv nv cv].toArray (rdP d (newRD (16 + 16 * g.disk).toNat) :: rdsP (rvl vs (1 + 16 * g.segs).toNat 0) :: F)
      (fun v L' => ∃ m, v = .tuple #[.pointer (some ⟨m, 0, none⟩), .int .i64 0] ∧ L' = rmP m d g (.slice pv nv cv) (List.replicate vs.length 0) :: rdP d (fmtRD (16 + 16 * g.disk).toNat (superR g)) :: rdsP (rvl vs (1 + 16 * g.segs).toNat vs.length) :: F) := by
  have hg := mayG_is hm
  have hlen : vs.length = nv := by simpa using hv.len
  have hvr : SlC F pv 1 nv cv (((rvl vs (1 + 16 * g.segs).toNat 0).map Prod.fst).map ptrc) := by rw [rvl_fst]; exact hv
  have cf := fun (F : List HP) (hv : SlC F pv 1 nv cv (((rvl vs (1 + 16 * g.segs).toNat 0).map Prod.fst).map ptrc)) => ref21_fits g hm d (newRD (16 + 16 * g.disk).toNat) (rvl vs (1 + 16 * g.segs).toNat 0) (F := F) ⟨by simp [newRD]; omega, by rw [rvl_len]; exact hn, by
    intro x hx
    obtain ⟨i, h1, rfl⟩ := List.getElem_of_mem hx
    simp [rvl, newRD]; omega⟩ hv
  have cE := fun (b : Nat) (L : List HP) => rd_erase b (16 + 16 * g.disk).toNat (L := L)
  have cS := fun (L : List HP) => ref5_Super g hm (L := L)
  have cW := fun (b : Nat) (L : List HP) => rd_write b (16 + 16 * g.disk).toNat (by omega) (superR g) (superR_len g) (L := L)
  have cF := fun (b : Nat) (L : List HP) => rd_flush b (16 + 16 * g.disk).toNat (superR g) (L := L)
  refine tr_enter Tryd.func24 rfl Tryd.ntmps24 rfl fun w0 => ?_
  generalize superR g = su at *
  simp only [Geo.cells] at *
  repeat' (first
    | refine swl_op ?_
    | (refine s1_move ?_; refine sc_r (R_move (by rfl)) (by rfl) ?_)
    | (refine s1_load ?_; refine sc_r (L_load_all (by rfl) (by infer_instance) (by rfl)) (by rfl) ?_)
    | (refine s1_assign ?_; refine sc_r (R_assign (by rfl)) (by rfl) ?_)
    | (refine s1_bin ?_; refine sc_r (R_neq (by rfl) (by rfl)) (by rfl) ?_)
    | (refine s1_call ?_; first | (refine sc_c (by rfl) (C_call (by rfl) (by infer_instance) (by rfl) (by rfl) (Tr.ent (Ent.pickC (by infer_instance) (Ent.pickC (by infer_instance) (Ent.refl _))) (cf _ (by infer_instance)))) (by rfl) ?_; rintro _ _ ⟨rfl, rfl⟩) | (refine sc_c (by rfl) (C_call (by rfl) (by infer_instance) (by rfl) (by rfl) (Tr.ent (Ent.pickC (by infer_instance) (Ent.refl _)) (cE d _))) (by rfl) ?_; rintro _ _ ⟨rfl, rfl⟩) | (refine sc_c (by rfl) (C_call (by rfl) (by infer_instance) (by rfl) (by rfl) (cS _)) (by rfl) ?_; rintro _ _ ⟨rfl, rfl⟩) | (refine sc_c (by rfl) (C_call (by rfl) (by infer_instance) (by rfl) (by rfl) (Tr.ent (Ent.pickC (by infer_instance) (Ent.refl _)) (cW d _))) (by rfl) ?_; rintro _ _ ⟨rfl, rfl⟩) | (refine sc_c (by rfl) (C_call (by rfl) (by infer_instance) (by rfl) (by rfl) (Tr.ent (Ent.pickC (by infer_instance) (Ent.refl _)) (cF d _))) (by rfl) ?_; rintro _ _ ⟨rfl, rfl⟩))
    | (refine s1_box ?_; (refine sc_w (by rfl) (W_boxA (by rfl)) (by rfl) ?_; rintro _ _ ⟨_, rfl, rfl⟩))
    | (refine s1_any ?_; first | refine sc_r (R_buildL (by rfl) (by rfl)) (by rfl) ?_ | refine sc_r (R_not (by rfl)) (by rfl) ?_)
    | refine swl_nil ?_
    | refine sx_next ?_
    | refine sw_seq ?_
    | refine sw_region ?_
    | refine sw_block ?_
    | refine sw_cond_false (by rfl) ?_
    | refine sw_skip ?_
    | fail)
  rename_i m
  clear hvr
  have cE2 := fun (b : Nat) (L : List HP) => rd_erase b (1 + 16 * g.segs).toNat (L := L)
  have cW2 := fun (b k : Nat) (L : List HP) => rd_write b (1 + 16 * g.segs).toNat (by omega) (labelR k 0) (labelR_len _ _) (L := L)
  have cF2 := fun (b k : Nat) (L : List HP) => rd_flush b (1 + 16 * g.segs).toNat (labelR k 0) (L := L)
  refine sw_ent (Ent.vec_nil (e := 3) (k := 1)) ?_
  refine sw_loop (γ := Nat × Value) (fun q => nv - q.1) (fun q => [(2, .slice pv nv cv), (11, .pointer (some ⟨m, 0, none⟩)), (12, .int .i64 q.1)])
    (fun q => rdsP (rvl vs (1 + 16 * g.segs).toNat q.1) :: vec 3 1 ((List.replicate q.1 (0 : Int)).map i64c) q.2 :: pt m (.cells #[.int .i64 g.disk, .int .i64 g.lines, .int .i64 g.vols, .int .i64 g.segs, .pointer (some ⟨d, 0, none⟩), .slice pv nv cv, q.2] 119) :: rdP d (fmtRD (16 + 16 * g.disk).toNat su) :: F) (fun q => q.1 ≤ nv) (0, .slice none 0 0) (by simp)
    (subE.cons rfl (subE.cons rfl (subE.cons rfl subE.nil))) (by (repeat (first | exact Ent.refl _ | exact Ent.nil | (apply Ent.pick; focus ((repeat (first | exact Rem.here | apply Rem.there)); done)) | apply Ent.drop))) ?_
  rintro ⟨i, sv⟩ hi
  dsimp only at hi ⊢
  by_cases hlt : i < nv
  · have hi' : i < (rvl vs (1 + 16 * g.segs).toNat i).length := by rw [rvl_len]; omega
    obtain ⟨b1, o1, rfl⟩ := hv.ptr (by omega)
    have he1 : (vs.map ptrc).getD i #[] = #[.pointer (some ⟨vs[i], 0, none⟩)] := by rw [ptr_get (by omega)]
    have hput := fun (S : RD) (F : List HP) => rds_put (rvl vs (1 + 16 * g.segs).toNat i) i hi' S (F := F)
    have hcut := fun (F : List HP) => rds_cut (rvl vs (1 + 16 * g.segs).toNat i) i hi' (F := F)
    simp only [rvl_at] at hput hcut
    have hset := rvl_set (n := (1 + 16 * g.segs).toNat) (show i < vs.length by omega)
    have cL := fun (L : List HP) => ref5_Label i 0 (by omega) (by omega) (L := L)
    have hap : (List.replicate i (0 : Int)).map i64c ++ [#[Value.int .i64 0]] = (List.replicate (i + 1) (0 : Int)).map i64c := by rw [List.replicate_succ', List.map_append]; rfl
    refine sw_ent (hcut _) ?_
    have cW3 := fun (L : List HP) => cW2 vs[i] i L
    have cF3 := fun (L : List HP) => cF2 vs[i] i L
    generalize labelR i 0 = lab at *
    generalize vs[i] = A at *
    repeat' (first
    | refine swl_op ?_
    | (refine s1_move ?_; refine sc_r (R_move (by rfl)) (by rfl) ?_)
    | (refine s1_load ?_; first | refine sc_r (L_load' (by rfl) (by infer_instance) (by rfl)) (by rfl) ?_ | refine sc_r (L_load_el1 (by rfl) (by infer_instance) (by omega) (by first | assumption | rfl)) (by rfl) ?_)
    | (refine s1_fieldAddr ?_; refine sc_r (R_fieldAddr (by rfl)) (by rfl) ?_)
    | (refine s1_assign ?_; refine sc_r (R_assign (by rfl)) (by rfl) ?_)
    | (refine s1_bin ?_; first | refine sc_r (R_lss (by rfl) (by rfl)) (by rfl) ?_ | refine sc_r (R_add64 (by rfl) (by rfl) (by omega)) (by rfl) ?_ | refine sc_r (R_neq (by rfl) (by rfl)) (by rfl) ?_)
    | (refine s1_call ?_; first | (refine sc_c (by rfl) (C_call (by rfl) (by infer_instance) (by rfl) (by rfl) (cE2 _ _)) (by rfl) ?_; rintro _ _ ⟨rfl, rfl⟩) | (refine sc_c (by rfl) (C_call (by rfl) (by infer_instance) (by rfl) (by rfl) (cL _)) (by rfl) ?_; rintro _ _ ⟨rfl, rfl⟩) | (refine sc_c (by rfl) (C_call (by rfl) (by infer_instance) (by rfl) (by rfl) (cW3 _)) (by rfl) ?_; rintro _ _ ⟨rfl, rfl⟩) | (refine sc_c (by rfl) (C_call (by rfl) (by infer_instance) (by rfl) (by rfl) (cF3 _)) (by rfl) ?_; rintro _ _ ⟨rfl, rfl⟩) | (refine sc_w (by rfl) (W_appendA (by rfl) (by rfl) (by focus ((repeat (first | exact Rem.here | apply Rem.there)); done)) (by infer_instance) (sizesL_mem (by rfl)) (onesL_mem (by rfl)) (by simp only [List.length_map, List.length_replicate]; omega)) (by rfl) ?_; rintro vv _ rfl; refine swl_know (fun h H => vec_fact H) ?_; rintro ⟨pv2, cv2, rfl, hv2⟩) | refine sc_r (R_len (by rfl)) (by rfl) ?_)
    | (refine s1_indexAddr ?_; refine sc_r (R_indexAddr (by rfl) (by rfl) (by omega)) (by rfl) ?_)
    | (refine s1_store ?_; (refine sc_w (by rfl) (W_storeL (by rfl) (by rfl) (by infer_instance) (by rfl) (by rfl) (by rfl)) (by rfl) ?_; rintro _ _ ⟨rfl, rfl⟩))
    | (refine s1_any ?_; first | (refine sc_w (by rfl) (W_buildSliceV (by rfl) (by rfl) (by rfl) (by rfl) (by rfl) (by rfl) (by rfl)) (by rfl) ?_; rintro _ _ ⟨_, rfl, rfl, _, _⟩) | refine sc_r (R_nilCheck (by rfl)) (by rfl) ?_)
    | refine swl_nil ?_
    | refine sx_next ?_
    | refine sw_seq ?_
    | refine sw_region ?_
    | refine sw_block ?_
    | refine sx_block_normal ?_
    | refine sw_cond_false (by rfl) ?_
    | refine sw_cond_pos (by rfl) (by first | assumption | omega) ?_
    | refine sw_skip ?_
    | refine swh_lt (by rfl) (fun _ _ => wanted_none) ?_
    | refine swh_hv (by rfl) (fun _ _ => wanted_none) ?_
    | refine swh_nil ?_
    | (apply And.intro; focus ((repeat (first | exact Ent.refl _ | exact Ent.nil | (apply Ent.pick; focus ((repeat (first | exact Rem.here | apply Rem.there)); done)) | apply Ent.drop)); done))
    | (refine sw_region_draw F [(0, true), (1, true), (2, true), (3, true), (4, true), (5, false), (6, false), (7, true)] follows ?_ ?_ ?_ ?_; (focus rfl); (focus (decide +kernel)); (focus ((repeat (first | exact Ent.refl _ | exact Ent.nil | (apply Ent.pick; focus ((repeat (first | exact Rem.here | apply Rem.there)); done)) | apply Ent.drop)); done)))
    | fail)
    refine sx_back (i + 1, .slice pv2 ((List.replicate i (0 : Int)).map i64c ++ [#[Value.int .i64 0]]).length cv2) (by simp only; omega) (by simp only; omega) (subE.cons rfl (subE.cons rfl (subE.cons rfl subE.nil))) ?_
    dsimp only
    rw [← hap, ← hset]
    refine Ent.trans ?_ (hput _ _)
    (repeat (first | exact Ent.refl _ | exact Ent.nil | (apply Ent.pick; focus ((repeat (first | exact Rem.here | apply Rem.there)); done)) | apply Ent.drop))
  · obtain rfl : i = nv := by omega
    repeat' (first
    | refine swl_op ?_
    | (refine s1_move ?_; refine sc_r (R_move (by rfl)) (by rfl) ?_)
    | (refine s1_assign ?_; refine sc_r (R_assign (by rfl)) (by rfl) ?_)
    | (refine s1_bin ?_; refine sc_r (R_lss (by rfl) (by rfl)) (by rfl) ?_)
    | (refine s1_call ?_; refine sc_r (R_len (by rfl)) (by rfl) ?_)
    | refine swl_nil ?_
    | refine sx_next ?_
    | refine sw_seq ?_
    | refine sw_region ?_
    | refine sx_past_exit ?_
    | refine sx_block_here ?_
    | refine sw_cond_neg (by rfl) (by first | assumption | omega) ?_
    | refine sw_ret ?_
    | refine sw_exit ?_
    | fail)
    rw [hlen]
    refine sx_ret_of (res2 rfl (ResOne.tmp rfl) (ResOne.tmp rfl)) _ ⟨m, rfl, rfl⟩ (Ent.trans ?_ (rm_close (sv := sv)))
    (repeat (first | exact Ent.refl _ | exact Ent.nil | (apply Ent.pick; focus ((repeat (first | exact Rem.here | apply Rem.there)); done)) | apply Ent.drop))
end Go.Proofs.YtjdnflhejfcgdaaDoor

/-
  The law of vaults: what its statements begin with.
-/
namespace Go.Proofs.YtjdnflhejfcgdaaDoor
open Go Go.SL Go.Proofs

def g22 : Geo := ⟨8, 1, 2, 3⟩
theorem law22_geo {L : List HP} : Tr Tryd.prog 22 [].toArray L (fun v L' => v = .agg g22.cells ∧ L = L') := by
  refine tr_enter Tryd.func22 rfl Tryd.ntmps22 rfl fun w0 => ?_
  repeat' (first
    | refine swl_op ?_
    | (refine s1_store ?_; (refine sc_w (by rfl) (W_storeAll (by rfl) (by rfl) (by infer_instance) (by rfl) (by rfl) (by rfl)) (by rfl) ?_; rintro _ _ ⟨rfl, rfl⟩))
    | (refine s1_alloc ?_; (refine sc_w (by rfl) W_allocA (by rfl) ?_; rintro _ _ ⟨_, rfl, rfl⟩))
    | (refine s1_any ?_; refine sc_r (R_buildL (by rfl) (by rfl)) (by rfl) ?_)
    | refine swl_nil ?_
    | refine sx_next ?_
    | refine sw_seq ?_
    | refine sw_region ?_
    | refine sw_ret ?_
    | fail)
  exact sx_ret_of (res1 rfl (ResOne.cellA (by rfl) (by infer_instance) (by rfl))) _ ⟨rfl, rfl⟩ (by (repeat (first | exact Ent.refl _ | exact Ent.nil | (apply Ent.pick; focus ((repeat (first | exact Rem.here | apply Rem.there)); done)) | apply Ent.drop)))

theorem ent_two {d a b : Nat} {s s1 s2 : DevS} {F : List HP} : Ent (devP d s :: devP b s2 :: devP a s1 :: F) (devP d s :: devsP [(a, s1), (b, s2)] :: F) := by
  refine Ent.cons ?_
  refine Ent.trans ?_ (devs_snoc [(a, s1)] b s2)
  refine Ent.cons ?_
  refine Ent.trans ?_ (devs_snoc [] a s1)
  refine Ent.cons devs_nil
theorem ent_two_r {d a b n k : Nat} {F : List HP} : Ent (rdP d (newRD n) :: rdP b (newRD k) :: rdP a (newRD k) :: F) (rdP d (newRD n) :: rdsP (rvl [a, b] k 0) :: F) := by
  refine Ent.cons ?_
  rw [show rvl [a, b] k 0 = [(a, newRD k), (b, newRD k)] from rfl]
  refine Ent.trans ?_ (rds_snoc [(a, newRD k)] b (newRD k))
  refine Ent.cons ?_
  refine Ent.trans ?_ (rds_snoc [] a (newRD k))
  refine Ent.cons rds_nil

/-- the disk and the volumes that are made -/
def disk22 : DevS := ewfS (newDev 144) (superF g22)
def vols22 (a b : Nat) : List (Nat × DevS) := fmV [(a, newDev 49), (b, newDev 49)] 2
theorem super22_len : (superF g22).length = 128 := by
  have := superN_len (g := g22) (by decide)
  exact sealF_len (by omega)
theorem new_ok (n : Nat) (h : 0 < n) (b : List Int) (hb : b.length = 128) : ewfE (newDev n) b = 0 := (ewf_new (newDev_well n) (by simp [newDev, h]) hb).1
theorem label_len0 (i : Nat) (h : i < 8) : (labelF i 0).length = 128 := by
  have := labelN_len (vol := i) (gen := 0) (by simp [labMay]; omega)
  exact sealF_len (by omega)

set_option maxHeartbeats 4000000 in
theorem law22_made {L : List HP} [HalvesC L] : Tr Tryd.prog 6 [].toArray L (fun v L' => ∃ m d a b p r rd x y q, v = .tuple #[.pointer (some ⟨m, 0, none⟩), .pointer (some ⟨r, 0, none⟩), .slice p 2 2, .slice q 2 2] ∧
    L' = medP m d [a, b] g22 [0, 0, -1, -1, -1, -1, -1, -1] :: devP d disk22 :: devsP (vols22 a b) :: vec 58 1 ([a, b].map ptrc) (.slice p 2 2) ::
      rmP r rd g22 (.slice q 2 2) [0, 0] :: rdP rd (fmtRD 144 (superR g22)) :: rdsP (rvl [x, y] 49 2) :: vec 66 1 ([x, y].map ptrc) (.slice q 2 2) :: L) := by
  refine tr_enter Tryd.func6 rfl Tryd.ntmps6 rfl fun w0 => ?_
  have cG := fun (L : List HP) => law22_geo (L := L)
  have cD := fun (n : Nat) (h : 1 ≤ n ∧ n ≤ 8192) (L : List HP) => dev_New n h (L := L)
  repeat' (first
    | refine swl_op ?_
    | (refine s1_move ?_; refine sc_r (R_move (by rfl)) (by rfl) ?_)
    | (refine s1_assign ?_; refine sc_r (R_assign (by rfl)) (by rfl) ?_)
    | (refine s1_pick ?_; refine sc_r (R_pick_f (by rfl) (by rfl)) (by rfl) ?_)
    | (refine s1_bin ?_; first | refine sc_r (R_neq (by rfl) (by rfl)) (by rfl) ?_ | refine sc_r (R_eql_nil (by rfl) (by rfl)) (by rfl) ?_)
    | (refine s1_call ?_; first | (refine sc_c (by rfl) (C_call (by rfl) (by infer_instance) (by rfl) (by rfl) (cD 144 (by omega) _)) (by rfl) ?_; rintro _ _ ⟨d, rfl, rfl⟩) | (refine sc_c (by rfl) (C_call (by rfl) (by infer_instance) (by rfl) (by rfl) (cD 49 (by omega) _)) (by rfl) ?_; rintro _ _ ⟨a, rfl, rfl⟩) | (refine sc_c (by rfl) (C_call (by rfl) (by infer_instance) (by rfl) (by rfl) (cG _)) (by rfl) ?_; rintro _ _ ⟨rfl, rfl⟩))
    | (refine s1_any ?_; first | (refine sc_w (by rfl) (W_buildSliceV (by rfl) (by rfl) (by rfl) (by rfl) (by rfl) (by rfl) (by rfl)) (by rfl) ?_; rintro _ _ ⟨_, rfl, rfl, _, _⟩) | refine sc_r (R_extract (by rfl) (by rfl)) (by rfl) ?_)
    | refine swl_nil ?_
    | refine sx_next ?_
    | refine sw_seq ?_
    | refine sw_region ?_
    | refine swl_g_on (by rfl) (by rfl) ?_
    | refine sw_cond_false (by rfl) ?_
    | refine sw_skip ?_
    | fail)
  rename_i a1 bw i1 i2
  have cM := fun (F : List HP) (hh : HalvesC F) (hv : SlC F (some ⟨bw, 0, none⟩) 1 2 2 (([(a1, newDev 49), (a, newDev 49)].map Prod.fst).map ptrc)) => medium_Format g22 d (newDev 144) [(a1, newDev 49), (a, newDev 49)] (by decide) (by simp [fitsF, newDev, g22]) (new_ok 144 (by omega) _ super22_len) (fun i h => by
    have h2 : i < 2 := h
    have : i = 0 ∨ i = 1 := by omega
    rcases this with rfl | rfl
    · exact new_ok 49 (by omega) _ (label_len0 0 (by omega))
    · exact new_ok 49 (by omega) _ (label_len0 1 (by omega))) (F := F) hv
  have cR := fun (n : Nat) (h : n ≤ 8192) (L : List HP) => ref4_NewS n h (L := L)
  repeat' (first
    | refine swl_op ?_
    | (refine s1_move ?_; refine sc_r (R_move (by rfl)) (by rfl) ?_)
    | (refine s1_assign ?_; refine sc_r (R_assign (by rfl)) (by rfl) ?_)
    | (refine s1_call ?_; first | (refine sc_c (by rfl) (C_call (by rfl) (by infer_instance) (by rfl) (by rfl) (cG _)) (by rfl) ?_; rintro _ _ ⟨rfl, rfl⟩) | (refine sc_c (by rfl) (C_call (by rfl) (by infer_instance) (by rfl) (by rfl) (Tr.ent (Ent.trans (Ent.pick (by focus ((repeat (first | exact Rem.here | apply Rem.there)); done)) (Ent.pick (by focus ((repeat (first | exact Rem.here | apply Rem.there)); done)) (Ent.pick (by focus ((repeat (first | exact Rem.here | apply Rem.there)); done)) (Ent.refl _)))) ent_two) (cM _ (by infer_instance) (by exact SlC.ofVec (els := [a1, a].map ptrc) (hn := by infer_instance) (hl := ⟨rfl⟩))))) (by rfl) ?_; rintro _ _ ⟨m, rfl, rfl⟩) | (refine sc_c (by rfl) (C_call (by rfl) (by infer_instance) (by rfl) (by rfl) (cR 144 (by omega) _)) (by rfl) ?_; rintro _ _ ⟨rd, rfl, rfl⟩) | (refine sc_c (by rfl) (C_call (by rfl) (by infer_instance) (by rfl) (by rfl) (cR 49 (by omega) _)) (by rfl) ?_; rintro _ _ ⟨y, rfl, rfl⟩))
    | (refine s1_any ?_; first | (refine sc_w (by rfl) (W_buildSliceV (by rfl) (by rfl) (by rfl) (by rfl) (by rfl) (by rfl) (by rfl)) (by rfl) ?_; rintro _ _ ⟨_, rfl, rfl, _, _⟩) | refine sc_r (R_extract (by rfl) (by rfl)) (by rfl) ?_)
    | refine swl_nil ?_
    | refine sx_next ?_
    | refine sw_seq ?_
    | refine sw_region ?_
    | fail)
  rename_i y1 bw2 j1 j2
  have cF := fun (F : List HP) (hv : SlC F (some ⟨bw2, 0, none⟩) 1 2 2 ([y1, y].map ptrc)) => ref21_Format g22 (by decide) rd [y1, y] (by rfl) (F := F) hv
  simp only [show (16 + 16 * g22.disk).toNat = 144 from rfl, show (1 + 16 * g22.segs).toNat = 49 from rfl, show [y1, y].length = 2 from rfl] at cF
  repeat' (first
    | refine swl_op ?_
    | (refine s1_move ?_; refine sc_r (R_move (by rfl)) (by rfl) ?_)
    | (refine s1_assign ?_; refine sc_r (R_assign (by rfl)) (by rfl) ?_)
    | (refine s1_pick ?_; refine sc_r (R_pick_f (by rfl) (by rfl)) (by rfl) ?_)
    | (refine s1_bin ?_; first | refine sc_r (R_neq (by rfl) (by rfl)) (by rfl) ?_ | refine sc_r (R_eql_nil (by rfl) (by rfl)) (by rfl) ?_)
    | (refine s1_call ?_; (refine sc_c (by rfl) (C_call (by rfl) (by infer_instance) (by rfl) (by rfl) (Tr.ent (Ent.trans (Ent.pick (by focus ((repeat (first | exact Rem.here | apply Rem.there)); done)) (Ent.pick (by focus ((repeat (first | exact Rem.here | apply Rem.there)); done)) (Ent.pick (by focus ((repeat (first | exact Rem.here | apply Rem.there)); done)) (Ent.refl _)))) ent_two_r) (cF _ (by exact SlC.ofVec (els := [y1, y].map ptrc) (hn := by infer_instance) (hl := ⟨rfl⟩))))) (by rfl) ?_; rintro _ _ ⟨r, rfl, rfl⟩))
    | (refine s1_any ?_; first | (refine sc_w (by rfl) (W_buildSliceV (by rfl) (by rfl) (by rfl) (by rfl) (by rfl) (by rfl) (by rfl)) (by rfl) ?_; rintro _ _ ⟨_, rfl, rfl, _, _⟩) | refine sc_r (R_extract (by rfl) (by rfl)) (by rfl) ?_)
    | refine swl_nil ?_
    | refine sx_next ?_
    | refine sw_seq ?_
    | refine sw_region ?_
    | refine swl_g_on (by rfl) (by rfl) ?_
    | refine sw_cond_false (by rfl) ?_
    | refine sw_ret ?_
    | refine sw_skip ?_
    | fail)
  rename_i bw3 k1 k2
  refine sx_ret_of (res4 rfl (ResOne.tmp rfl) (ResOne.tmp rfl) (ResOne.tmp rfl) (ResOne.tmp rfl)) _ ⟨m, d, a1, a, _, r, rd, y1, y, _, rfl, rfl⟩ ?_
  (repeat (first | exact Ent.refl _ | exact Ent.nil | (apply Ent.pick; focus ((repeat (first | exact Rem.here | apply Rem.there)); done)) | apply Ent.drop))
attribute [irreducible] disk22 vols22
end Go.Proofs.YtjdnflhejfcgdaaDoor

/-
  The document's own parts.
-/
namespace Go.Proofs.YtjdnflhejfcgdaaDoor
open Go Go.SL Go.Proofs

set_option maxHeartbeats 1000000 in
theorem ref6_Same (a b : PartS) {pa pb : Option Addr} {n ca m cb : Nat} {L : List HP} (ha : SlC L pa 4 n ca (a.l.map EntS.cells)) (hb : SlC L pb 4 m cb (b.l.map EntS.cells)) :
    Tr Tryd.prog 11 [.agg (a.cells (.slice pa n ca)), .agg (b.cells (.slice pb m cb))].toArray L (fun v L' => v = .bool (decide (a = b)) ∧ L = L') := by
  have hla : a.l.length = n := by simpa using ha.len
  have hlb : b.l.length = m := by simpa using hb.len
  have hbd := ha.bd
  have hno := part_ne (a := a) (b := b)
  have hat := fun i h1 h2 => part_ne_at (a := a) (b := b) (i := i) h1 h2
  have hyes := part_eq (a := a) (b := b)
  have hd0 : a ≠ b → decide (a = b) = false := fun h => decide_eq_false h
  have hd1 : a = b → decide (a = b) = true := fun h => decide_eq_true h
  generalize decide (a = b) = res at *
  obtain ⟨aseq, anext, afin, al⟩ := a
  obtain ⟨bseq, bnext, bfin, bl⟩ := b
  dsimp only at hla hlb hno hat hyes ha hb
  simp only [PartS.cells]
  refine tr_enter Tryd.func11 rfl Tryd.ntmps11 rfl fun w0 => ?_
  repeat' (first
    | refine swl_op ?_
    | (refine s1_move ?_; refine sc_r (R_move (by rfl)) (by rfl) ?_)
    | (refine s1_load ?_; refine sc_r (L_load' (by rfl) (by infer_instance) (by rfl)) (by rfl) ?_)
    | (refine s1_fieldAddr ?_; refine sc_r (R_fieldAddr (by rfl)) (by rfl) ?_)
    | (refine s1_assign ?_; refine sc_r (R_assign (by rfl)) (by rfl) ?_)
    | (refine s1_pick ?_; first | refine sc_r (R_pick_t (by rfl) (by rfl)) (by rfl) ?_ | refine sc_r (R_pick_f (by rfl) (by rfl)) (by rfl) ?_)
    | (refine s1_bin ?_; first | refine sc_r (R_neq (by rfl) (by rfl)) (by rfl) ?_ | refine sc_r (R_neq_bool (by rfl) (by rfl)) (by rfl) ?_)
    | (refine s1_call ?_; refine sc_r (R_len (by rfl)) (by rfl) ?_)
    | (refine s1_box ?_; (refine sc_w (by rfl) (W_boxA (by rfl)) (by rfl) ?_; rintro _ _ ⟨_, rfl, rfl⟩))
    | refine swl_nil ?_
    | refine sx_next ?_
    | refine sw_seq ?_
    | refine sw_region ?_
    | refine sw_block ?_
    | refine swl_g_on (by rfl) (by rfl) ?_
    | refine swl_g_off (by rfl) (by rfl) (by rfl) (by rfl) ?_
    | refine swl_g_ndec (by rfl) (by rfl) (fun hp => ?_) (fun hp => ?_)
    | refine sx_past_ret ?_
    | refine sw_cond_true (by rfl) ?_
    | refine sw_cond_not (by rfl) (fun hp => ?_) (fun hp => ?_)
    | refine sw_ret ?_
    | refine sw_skip ?_
    | fail)
  rotate_left 4
  · have hfin : afin = bfin := by assumption
    obtain rfl : n = m := by omega
    rename_i b2 b3 _ _ _
    refine sw_loop (γ := Nat) (fun k => n - k) (fun k => [(2, .pointer (some ⟨b2, 0, none⟩)), (3, .pointer (some ⟨b3, 0, none⟩)), (5, .int .i64 k)])
      (fun _ => pt b3 (.cells #[.int .i64 bseq, .int .i64 bnext, .bool bfin, .slice pb n cb] 34) :: pt b2 (.cells #[.int .i64 aseq, .int .i64 anext, .bool afin, .slice pa n ca] 34) :: L) (fun k => k ≤ n ∧ al.take k = bl.take k) 0 ⟨by omega, rfl⟩ (subE.cons rfl (subE.cons rfl (subE.cons rfl subE.nil))) (by (repeat (first | exact Ent.refl _ | exact Ent.nil | (apply Ent.pick; focus ((repeat (first | exact Rem.here | apply Rem.there)); done)) | apply Ent.drop))) ?_
    rintro k ⟨hk, htk⟩
    by_cases hlt : k < n
    · obtain ⟨b1, o1, rfl⟩ := ha.ptr (by omega)
      obtain ⟨b4, o4, rfl⟩ := hb.ptr (by omega)
      have hk1 : k < al.length := by omega
      have hk2 : k < bl.length := by omega
      have he1 := ent_get hk1
      have he2 := ent_get hk2
      have hts1 := List.take_succ_eq_append_getElem hk1
      have hts2 := List.take_succ_eq_append_getElem hk2
      have hakk := hat k hk1 hk2
      generalize al[k] = x at *
      generalize bl[k] = y at *
      have hcm := eqIn_Ent x y
      obtain ⟨x1, x2, x3, x4⟩ := x
      simp only [EntS.cells] at *
      repeat' (first
    | refine swl_op ?_
    | (refine s1_move ?_; refine sc_r (R_move (by rfl)) (by rfl) ?_)
    | (refine s1_load ?_; first | refine sc_r (L_load' (by rfl) (by infer_instance) (by rfl)) (by rfl) ?_ | refine sc_r (L_load_el (by rfl) (by infer_instance) (by infer_instance) (by omega) (by first | assumption | rfl)) (by rfl) ?_)
    | (refine s1_fieldAddr ?_; refine sc_r (R_fieldAddr (by rfl)) (by rfl) ?_)
    | (refine s1_assign ?_; refine sc_r (R_assign (by rfl)) (by rfl) ?_)
    | (refine s1_bin ?_; first | refine sc_r (R_lss (by rfl) (by rfl)) (by rfl) ?_ | refine sc_r (R_add64 (by rfl) (by rfl) (by omega)) (by rfl) ?_ | refine sc_r (R_neq_st (by rfl) (by rfl) Tryd.eqGuardType72 hcm) (by rfl) ?_)
    | (refine s1_call ?_; refine sc_r (R_len (by rfl)) (by rfl) ?_)
    | (refine s1_indexAddr ?_; refine sc_r (R_indexAddr (by rfl) (by rfl) (by omega)) (by rfl) ?_)
    | refine swl_nil ?_
    | refine sx_next ?_
    | refine sw_seq ?_
    | refine sw_region ?_
    | refine sw_block ?_
    | refine sx_past_ret ?_
    | refine sx_block_normal ?_
    | refine sx_block_ret ?_
    | refine sw_cond_pos (by rfl) (by first | assumption | omega) ?_
    | refine sw_cond_not (by rfl) (fun hp => ?_) (fun hp => ?_)
    | refine sw_ret ?_
    | refine sw_skip ?_
    | refine swh_lt (by rfl) (fun _ _ => wanted_none) ?_
    | refine swh_nil ?_
    | (refine sw_draw [(0, true), (1, true), (2, true), (3, true), (4, true), (5, true), (6, true), (7, true), (8, true), (9, true), (10, true)] follows ?_ ?_ ?_; (focus rfl); (focus (decide +kernel)))
    | fail)
      · rw [hd0 (hakk (by assumption))]
        exact sx_ret_of (res1 rfl (ResOne.tmp rfl)) L ⟨rfl, rfl⟩ (by (repeat (first | exact Ent.refl _ | exact Ent.nil | (apply Ent.pick; focus ((repeat (first | exact Rem.here | apply Rem.there)); done)) | apply Ent.drop)))
      · exact sx_back (k + 1) (by omega) ⟨by omega, by rw [hts1, hts2, htk]; congr 2⟩ (subE.cons rfl (subE.cons rfl (subE.cons rfl subE.nil))) (by (repeat (first | exact Ent.refl _ | exact Ent.nil | (apply Ent.pick; focus ((repeat (first | exact Rem.here | apply Rem.there)); done)) | apply Ent.drop)))
    · rw [List.take_of_length_le (by omega), List.take_of_length_le (by omega)] at htk
      rw [hd1 (hyes ⟨by omega, by omega, hfin⟩ htk)]
      repeat' (first
    | refine swl_op ?_
    | (refine s1_move ?_; refine sc_r (R_move (by rfl)) (by rfl) ?_)
    | (refine s1_load ?_; refine sc_r (L_load' (by rfl) (by infer_instance) (by rfl)) (by rfl) ?_)
    | (refine s1_fieldAddr ?_; refine sc_r (R_fieldAddr (by rfl)) (by rfl) ?_)
    | (refine s1_assign ?_; refine sc_r (R_assign (by rfl)) (by rfl) ?_)
    | (refine s1_bin ?_; refine sc_r (R_lss (by rfl) (by rfl)) (by rfl) ?_)
    | (refine s1_call ?_; refine sc_r (R_len (by rfl)) (by rfl) ?_)
    | refine swl_nil ?_
    | refine sx_next ?_
    | refine sw_seq ?_
    | refine sw_region ?_
    | refine sx_past_exit ?_
    | refine sx_block_here ?_
    | refine sw_cond_neg (by rfl) (by first | assumption | omega) ?_
    | refine sw_ret ?_
    | refine sw_exit ?_
    | fail)
      exact sx_ret_of (res1 rfl (ResOne.tmp rfl)) L ⟨rfl, rfl⟩ (by (repeat (first | exact Ent.refl _ | exact Ent.nil | (apply Ent.pick; focus ((repeat (first | exact Rem.here | apply Rem.there)); done)) | apply Ent.drop)))
  all_goals
    rw [hd0 (hno (by first | omega | simp_all))]
    exact sx_ret_of (res1 rfl (ResOne.tmp rfl)) L ⟨rfl, rfl⟩ (by (repeat (first | exact Ent.refl _ | exact Ent.nil | (apply Ent.pick; focus ((repeat (first | exact Rem.here | apply Rem.there)); done)) | apply Ent.drop)))

set_option maxHeartbeats 4000000 in
theorem ref6_May (p : PartS) {pp : Option Addr} {n c : Nat} {L : List HP} (hl : SlC L pp 4 n c (p.l.map EntS.cells)) :
    Tr Tryd.prog 62 [.agg (p.cells (.slice pp n c))].toArray L (fun v L' => v = .bool (mayP p) ∧ L = L') := by
  refine tr_enter Tryd.func62 rfl Tryd.ntmps62 rfl fun w0 => ?_
  have hlen : p.l.length = n := by simpa using hl.len
  have hbd := hl.bd
  have hno := mayP_not (p := p)
  have hent := fun i hi => mayP_ent (p := p) (i := i) hi
  have hyes := mayP_of (p := p)
  obtain ⟨seq, next, fin, ents⟩ := p
  dsimp only at hlen hno hent hyes hl
  simp only [PartS.cells]
  generalize mayP ⟨seq, next, fin, ents⟩ = may at *
  repeat' (first
    | refine swl_op ?_
    | (refine s1_assign ?_; refine sc_r (R_assign (by rfl)) (by rfl) ?_)
    | (refine s1_box ?_; (refine sc_w (by rfl) (W_boxA (by rfl)) (by rfl) ?_; rintro _ _ ⟨_, rfl, rfl⟩))
    | refine swl_nil ?_
    | refine sx_next ?_
    | refine sw_seq ?_
    | refine sw_region ?_
    | refine sw_block ?_
    | fail)
  rename_i b1
  refine sw_loop (γ := Nat) (fun k => n - k) (fun k => [(1, .pointer (some ⟨b1, 0, none⟩)), (3, .int .i64 k)])
    (fun _ => pt b1 (.cells #[.int .i64 seq, .int .i64 next, .bool fin, .slice pp n c] 34) :: L) (fun k => k ≤ n ∧ ∀ x ∈ ents.take k, entMay x = true) 0 ⟨by omega, by simp⟩ (subE.cons rfl (subE.cons rfl subE.nil)) (by (repeat (first | exact Ent.refl _ | exact Ent.nil | (apply Ent.pick; focus ((repeat (first | exact Rem.here | apply Rem.there)); done)) | apply Ent.drop))) ?_
  rintro i ⟨hi', hall⟩
  by_cases hlt : i < n
  · obtain ⟨b2, o2, rfl⟩ := hl.ptr (by omega)
    have hi : i < ents.length := by omega
    have he1 := ent_get hi
    have hts := List.take_succ_eq_append_getElem hi
    have hei := hent i hi
    have hok : (1 ≤ (ents[i]).kind ∧ (ents[i]).kind ≤ 4 ∧ 0 ≤ (ents[i]).ino ∧ (ents[i]).ino ≤ 255 ∧ 0 ≤ (ents[i]).index ∧ (ents[i]).index ≤ 65535) → entMay ents[i] = true := fun h => by simpa [entMay] using h
    have hbad : ¬ (1 ≤ (ents[i]).kind ∧ (ents[i]).kind ≤ 4 ∧ 0 ≤ (ents[i]).ino ∧ (ents[i]).ino ≤ 255 ∧ 0 ≤ (ents[i]).index ∧ (ents[i]).index ≤ 65535) → may = false := fun h => hei (by simpa [entMay] using h)
    generalize ents[i] = e at *
    obtain ⟨kind, ino, index, sum⟩ := e
    simp only [EntS.cells] at *
    repeat' (first
    | refine swl_op ?_
    | (refine s1_move ?_; refine sc_r (R_move (by rfl)) (by rfl) ?_)
    | (refine s1_load ?_; first | refine sc_r (L_load' (by rfl) (by infer_instance) (by rfl)) (by rfl) ?_ | refine sc_r (L_load_el (by rfl) (by infer_instance) (by infer_instance) (by omega) (by first | assumption | rfl)) (by rfl) ?_)
    | (refine s1_fieldAddr ?_; refine sc_r (R_fieldAddr (by rfl)) (by rfl) ?_)
    | (refine s1_assign ?_; refine sc_r (R_assign (by rfl)) (by rfl) ?_)
    | (refine s1_pick ?_; first | refine sc_r (R_pick_t (by rfl) (by rfl)) (by rfl) ?_ | refine sc_r (R_pick_f (by rfl) (by rfl)) (by rfl) ?_)
    | (refine s1_bin ?_; first | refine sc_r (R_lss (by rfl) (by rfl)) (by rfl) ?_ | refine sc_r (R_add64 (by rfl) (by rfl) (by omega)) (by rfl) ?_ | refine sc_r (R_gtr (by rfl) (by rfl)) (by rfl) ?_)
    | (refine s1_call ?_; refine sc_r (R_len (by rfl)) (by rfl) ?_)
    | (refine s1_indexAddr ?_; refine sc_r (R_indexAddr (by rfl) (by rfl) (by omega)) (by rfl) ?_)
    | (refine s1_store ?_; (refine sc_w (by rfl) (W_storeAll (by rfl) (by rfl) (by infer_instance) (by rfl) (by rfl) (by rfl)) (by rfl) ?_; rintro _ _ ⟨rfl, rfl⟩))
    | (refine s1_alloc ?_; (refine sc_w (by rfl) W_allocA (by rfl) ?_; rintro _ _ ⟨_, rfl, rfl⟩))
    | refine swl_nil ?_
    | refine sx_next ?_
    | refine sw_seq ?_
    | refine sw_region ?_
    | refine sw_block ?_
    | refine swl_g_on (by rfl) (by rfl) ?_
    | refine swl_g_off (by rfl) (by rfl) (by rfl) (by rfl) ?_
    | refine swl_g_dec (by rfl) (by rfl) (fun hp => ?_) (fun hp => ?_)
    | refine sx_past_ret ?_
    | refine sx_block_normal ?_
    | refine sx_block_ret ?_
    | refine sw_cond_true (by rfl) ?_
    | refine sw_cond_pos (by rfl) (by first | assumption | omega) ?_
    | refine sw_cond_dec (by rfl) (fun hp => ?_) (fun hp => ?_)
    | refine sw_ret ?_
    | refine sw_skip ?_
    | fail)
    all_goals first
      | (refine sx_back (i + 1) (by omega) ⟨by omega, ?_⟩ (subE.cons rfl (subE.cons rfl subE.nil)) (by (repeat (first | exact Ent.refl _ | exact Ent.nil | (apply Ent.pick; focus ((repeat (first | exact Rem.here | apply Rem.there)); done)) | apply Ent.drop)))
         intro y hy
         rw [hts] at hy
         rcases List.mem_append.1 hy with hy | hy
         · exact hall y hy
         · rw [List.mem_singleton.1 hy]; exact hok (by omega))
      | (rw [hbad (by omega)]
         exact sx_ret_of (res1 rfl (ResOne.tmp rfl)) L ⟨rfl, rfl⟩ (by (repeat (first | exact Ent.refl _ | exact Ent.nil | (apply Ent.pick; focus ((repeat (first | exact Rem.here | apply Rem.there)); done)) | apply Ent.drop))))
  · rw [List.take_of_length_le (by omega)] at hall
    repeat' (first
    | refine swl_op ?_
    | (refine s1_move ?_; refine sc_r (R_move (by rfl)) (by rfl) ?_)
    | (refine s1_load ?_; refine sc_r (L_load' (by rfl) (by infer_instance) (by rfl)) (by rfl) ?_)
    | (refine s1_fieldAddr ?_; refine sc_r (R_fieldAddr (by rfl)) (by rfl) ?_)
    | (refine s1_assign ?_; refine sc_r (R_assign (by rfl)) (by rfl) ?_)
    | (refine s1_pick ?_; first | refine sc_r (R_pick_t (by rfl) (by rfl)) (by rfl) ?_ | refine sc_r (R_pick_f (by rfl) (by rfl)) (by rfl) ?_)
    | (refine s1_bin ?_; first | refine sc_r (R_lss (by rfl) (by rfl)) (by rfl) ?_ | refine sc_r (R_leq (by rfl) (by rfl)) (by rfl) ?_)
    | (refine s1_call ?_; refine sc_r (R_len (by rfl)) (by rfl) ?_)
    | refine swl_nil ?_
    | refine sx_next ?_
    | refine sw_seq ?_
    | refine sw_region ?_
    | refine swl_g_on (by rfl) (by rfl) ?_
    | refine swl_g_off (by rfl) (by rfl) (by rfl) (by rfl) ?_
    | refine swl_g_dec (by rfl) (by rfl) (fun hp => ?_) (fun hp => ?_)
    | refine sx_past_exit ?_
    | refine sx_block_here ?_
    | refine sw_cond_neg (by rfl) (by first | assumption | omega) ?_
    | refine sw_ret ?_
    | refine sw_exit ?_
    | fail)
    all_goals first
      | (rw [hno (by omega)]
         exact sx_ret_of (res1 rfl (ResOne.tmp rfl)) L ⟨rfl, rfl⟩ (by (repeat (first | exact Ent.refl _ | exact Ent.nil | (apply Ent.pick; focus ((repeat (first | exact Rem.here | apply Rem.there)); done)) | apply Ent.drop))))
      | (refine sx_ret_of (res1 rfl (ResOne.tmp rfl)) L ⟨?_, rfl⟩ (by (repeat (first | exact Ent.refl _ | exact Ent.nil | (apply Ent.pick; focus ((repeat (first | exact Rem.here | apply Rem.there)); done)) | apply Ent.drop)))
         by_cases h13 : (n : Int) ≤ 13
         · rw [hyes (by omega) hall, decide_eq_true h13]
         · rw [hno (by omega), decide_eq_false h13])
end Go.Proofs.YtjdnflhejfcgdaaDoor

/-
  The document's own parts, made of blocks.
-/
namespace Go.Proofs.YtjdnflhejfcgdaaDoor
open Go Go.SL Go.Proofs

def ofE (e : EntS) (b : List Int) : EntS := { e with sum := refSum b }
def ofL (es : List EntS) (bs : List (List Int)) : List EntS := (es.zip bs).map fun x => ofE x.1 x.2
def partR (seq next : Int) (fin : Bool) (es : List EntS) (bs : List (List Int)) : PartS := ⟨seq, next, fin, ofL es bs⟩
def mayOr (p : PartS) : PartS := if mayP p then p else zeroP
theorem ofL_len {es : List EntS} {bs : List (List Int)} (h : es.length = bs.length) : (ofL es bs).length = bs.length := by simp [ofL, h]
theorem ofL_take {es : List EntS} {bs : List (List Int)} {k : Nat} (h1 : k < es.length) (h2 : k < bs.length) : (ofL es bs).take (k + 1) = (ofL es bs).take k ++ [ofE es[k] bs[k]] := by
  have h3 : k < (ofL es bs).length := by simp [ofL]; omega
  rw [List.take_succ_eq_append_getElem h3]
  simp [ofL]

set_option maxHeartbeats 4000000 in
theorem ref6_Of (seq next : Int) (fin : Bool) (es : List EntS) (bs : List (List Int)) (hlen : es.length = bs.length) (h13 : bs.length ≤ 1000) (h128 : ∀ b ∈ bs, b.length = 128) (hby : ∀ b ∈ bs, ∀ z ∈ b, 0 ≤ z ∧ z ≤ 255)
    {pl pb : Option Addr} {n cl m cb : Nat} {L : List HP} (hl : SlC L pl 4 n cl (es.map EntS.cells)) (hb : SlC L pb 1 m cb (bs.map strC)) :
    Tr Tryd.prog 26 [.int .i64 seq, .int .i64 next, .bool fin, .slice pl n cl, .slice pb m cb].toArray L (fun v L' => ∃ s, v = .tuple #[.agg ((mayOr (partR seq next fin es bs)).cells s), .bool (mayP (partR seq next fin es bs))] ∧
      L' = vec 72 4 ((mayOr (partR seq next fin es bs)).l.map EntS.cells) s :: L) := by
  have hla : es.length = n := by simpa using hl.len
  have hlb : bs.length = m := by simpa using hb.len
  obtain rfl : n = m := by omega
  refine tr_enter Tryd.func26 rfl Tryd.ntmps26 rfl fun w0 => ?_
  repeat' (first
    | refine swl_op ?_
    | (refine s1_move ?_; refine sc_r (R_move (by rfl)) (by rfl) ?_)
    | (refine s1_assign ?_; refine sc_r (R_assign (by rfl)) (by rfl) ?_)
    | (refine s1_bin ?_; refine sc_r (R_neq (by rfl) (by rfl)) (by rfl) ?_)
    | (refine s1_call ?_; refine sc_r (R_len (by rfl)) (by rfl) ?_)
    | (refine s1_store ?_; (refine sc_w (by rfl) (W_storeAll (by rfl) (by rfl) (by infer_instance) (by rfl) (by rfl) (by rfl)) (by rfl) ?_; rintro _ _ ⟨rfl, rfl⟩))
    | (refine s1_alloc ?_; (refine sc_w (by rfl) W_allocA (by rfl) ?_; rintro _ _ ⟨_, rfl, rfl⟩))
    | (refine s1_any ?_; refine sc_r (R_build (by rfl) (by rfl)) (by rfl) ?_)
    | refine swl_nil ?_
    | refine sx_next ?_
    | refine sw_seq ?_
    | refine sw_region ?_
    | refine sw_block ?_
    | refine sw_cond_npos (by rfl) (by first | assumption | omega) ?_
    | refine sw_skip ?_
    | fail)
  rename_i b10 b12
  refine sw_ent (Ent.vec_nil (e := 72) (k := 4)) ?_
  refine sw_loop (γ := Nat × Value) (fun q => n - q.1) (fun q => [(3, .slice pl n cl), (4, .slice pb n cb), (10, .pointer (some ⟨b10, 0, none⟩)), (12, .pointer (some ⟨b12, 0, none⟩)), (13, .int .i64 q.1)])
    (fun q => vec 72 4 (((ofL es bs).take q.1).map EntS.cells) q.2 :: pt b12 (.cells #[.int .i64 seq, .int .i64 next, .bool fin, q.2] 34) :: pt b10 (.cells #[.int .i64 0, .int .i64 0, .bool false, .slice none 0 0] 34) :: L) (fun q => q.1 ≤ n) (0, .slice none 0 0) (by simp)
    (subE.cons rfl (subE.cons rfl (subE.cons rfl (subE.cons rfl (subE.cons rfl subE.nil))))) (by (repeat (first | exact Ent.refl _ | exact Ent.nil | (apply Ent.pick; focus ((repeat (first | exact Rem.here | apply Rem.there)); done)) | apply Ent.drop))) ?_
  rintro ⟨k, sv⟩ hk
  dsimp only at hk ⊢
  by_cases hlt : k < n
  · obtain ⟨b1, o1, rfl⟩ := hl.ptr (by omega)
    obtain ⟨b2, o2, rfl⟩ := hb.ptr (by omega)
    have hk1 : k < es.length := by omega
    have hk2 : k < bs.length := by omega
    have he1 := ent_get hk1
    have he2 : (bs.map strC).getD k #[] = #[.string (strOfNums bs[k])] := by simp [hk2, strC]
    have hx := h128 _ (List.getElem_mem hk2)
    have hy := hby _ (List.getElem_mem hk2)
    have htk := ofL_take hk1 hk2
    have hll : ((ofL es bs).take k).length = k := by rw [List.length_take, ofL_len hlen]; omega
    have cS := fun (L : List HP) => ref2_Sum bs[k] (by omega) hy (L := L)
    generalize bs[k] = b at *
    generalize es[k] = e at *
    obtain ⟨kind, ino, index, sum⟩ := e
    simp only [EntS.cells] at he1
    generalize hsm : refSum b = sm at *
    have hap : ((ofL es bs).take k).map EntS.cells ++ [#[.int .i64 kind, .int .i64 ino, .int .i64 index, .int .u32 sm]] = ((ofL es bs).take (k + 1)).map EntS.cells := by rw [htk, List.map_append]; simp [ofE, EntS.cells, hsm]
    have hl2 : (((ofL es bs).take k).map EntS.cells).length = k := by rw [List.length_map, hll]
    generalize ((ofL es bs).take k).map EntS.cells = els at *
    repeat' (first
    | refine swl_op ?_
    | (refine s1_move ?_; refine sc_r (R_move (by rfl)) (by rfl) ?_)
    | (refine s1_load ?_; first | refine sc_r (L_load' (by rfl) (by infer_instance) (by rfl)) (by rfl) ?_ | refine sc_r (L_load_all (by rfl) (by infer_instance) (by rfl)) (by rfl) ?_ | refine sc_r (L_load_el (by rfl) (by infer_instance) (by infer_instance) (by omega) (by first | assumption | rfl)) (by rfl) ?_ | refine sc_r (L_load_el1 (by rfl) (by infer_instance) (by omega) (by first | assumption | rfl)) (by rfl) ?_)
    | (refine s1_fieldAddr ?_; refine sc_r (R_fieldAddr (by rfl)) (by rfl) ?_)
    | (refine s1_assign ?_; refine sc_r (R_assign (by rfl)) (by rfl) ?_)
    | (refine s1_bin ?_; first | refine sc_r (R_lss (by rfl) (by rfl)) (by rfl) ?_ | refine sc_r (R_add64 (by rfl) (by rfl) (by omega)) (by rfl) ?_ | refine sc_r (R_neq (by rfl) (by rfl)) (by rfl) ?_)
    | (refine s1_call ?_; first | refine sc_r (R_len_S (by rfl)) (by rfl) ?_ | (refine sc_c (by rfl) (C_call (by rfl) (by infer_instance) (by rfl) (by rfl) (cS _)) (by rfl) ?_; rintro _ _ ⟨rfl, rfl⟩) | (refine sc_w (by rfl) (W_appendA (by rfl) (by rfl) (by focus ((repeat (first | exact Rem.here | apply Rem.there)); done)) (by infer_instance) (sizesL_mem (by rfl)) (onesL_mem (by rfl)) (by omega)) (by rfl) ?_; rintro vv _ rfl; refine swl_know (fun h H => vec_fact H) ?_; rintro ⟨pv, cv, rfl, hv⟩) | refine sc_r (R_len (by rfl)) (by rfl) ?_)
    | (refine s1_indexAddr ?_; refine sc_r (R_indexAddr (by rfl) (by rfl) (by omega)) (by rfl) ?_)
    | (refine s1_store ?_; first | (refine sc_w (by rfl) (W_storeAll (by rfl) (by rfl) (by infer_instance) (by rfl) (by rfl) (by rfl)) (by rfl) ?_; rintro _ _ ⟨rfl, rfl⟩) | (refine sc_w (by rfl) (W_storeL (by rfl) (by rfl) (by infer_instance) (by rfl) (by rfl) (by rfl)) (by rfl) ?_; rintro _ _ ⟨rfl, rfl⟩))
    | (refine s1_alloc ?_; (refine sc_w (by rfl) W_allocA (by rfl) ?_; rintro _ _ ⟨_, rfl, rfl⟩))
    | (refine s1_any ?_; (refine sc_w (by rfl) (W_buildSliceV (by rfl) (by rfl) (by rfl) (by rfl) (by rfl) (by rfl) (by rfl)) (by rfl) ?_; rintro _ _ ⟨_, rfl, rfl, _, _⟩))
    | refine swl_nil ?_
    | refine sx_next ?_
    | refine sw_seq ?_
    | refine sw_region ?_
    | refine sw_block ?_
    | refine sx_block_normal ?_
    | refine sw_cond_pos (by rfl) (by first | assumption | omega) ?_
    | refine sw_cond_npos (by rfl) (by first | assumption | omega) ?_
    | refine sw_skip ?_
    | fail)
    refine sx_back (k + 1, .slice pv (els ++ [#[Value.int .i64 kind, Value.int .i64 ino, Value.int .i64 index, Value.int .u32 sm]]).length cv) (by simp only; omega) (by simp only; omega) (subE.cons rfl (subE.cons rfl (subE.cons rfl (subE.cons rfl (subE.cons rfl subE.nil))))) ?_
    dsimp only
    rw [← hap]
    (repeat (first | exact Ent.refl _ | exact Ent.nil | (apply Ent.pick; focus ((repeat (first | exact Rem.here | apply Rem.there)); done)) | apply Ent.drop))
  · obtain rfl : k = n := by omega
    have hall : (ofL es bs).take k = ofL es bs := List.take_of_length_le (by rw [ofL_len hlen]; omega)
    rw [hall]
    refine sw_know (fun h H => vec_fact H) ?_
    rintro ⟨pv, cv, rfl, hv⟩
    rw [List.length_map] at *
    have cM := fun (L : List HP) (hl : SlC L pv 4 (ofL es bs).length cv ((ofL es bs).map EntS.cells)) => ref6_May (partR seq next fin es bs) (L := L) hl
    simp only [PartS.cells, partR] at cM
    by_cases hmay : mayP (partR seq next fin es bs) = true
    · have ho : mayOr (partR seq next fin es bs) = partR seq next fin es bs := if_pos hmay
      rw [ho, hmay]
      simp only [partR] at hmay
      rw [hmay] at cM
      repeat' (first
    | refine swl_op ?_
    | (refine s1_move ?_; refine sc_r (R_move (by rfl)) (by rfl) ?_)
    | (refine s1_load ?_; refine sc_r (L_load_all (by rfl) (by infer_instance) (by rfl)) (by rfl) ?_)
    | (refine s1_assign ?_; refine sc_r (R_assign (by rfl)) (by rfl) ?_)
    | (refine s1_bin ?_; refine sc_r (R_lss (by rfl) (by rfl)) (by rfl) ?_)
    | (refine s1_call ?_; first | (refine sc_c (by rfl) (C_call (by rfl) (by infer_instance) (by rfl) (by rfl) (cM _ (by infer_instance))) (by rfl) ?_; rintro _ _ ⟨rfl, rfl⟩) | refine sc_r (R_len (by rfl)) (by rfl) ?_)
    | (refine s1_store ?_; (refine sc_w (by rfl) (W_storeAll (by rfl) (by rfl) (by infer_instance) (by rfl) (by rfl) (by rfl)) (by rfl) ?_; rintro _ _ ⟨rfl, rfl⟩))
    | (refine s1_any ?_; refine sc_r (R_not (by rfl)) (by rfl) ?_)
    | refine swl_nil ?_
    | refine sx_next ?_
    | refine sw_seq ?_
    | refine sw_region ?_
    | refine sx_past_exit ?_
    | refine sx_block_here ?_
    | refine sw_cond_false (by rfl) ?_
    | refine sw_cond_neg (by rfl) (by first | assumption | omega) ?_
    | refine sw_ret ?_
    | refine sw_exit ?_
    | refine sw_skip ?_
    | fail)
      refine sx_ret_of (res2 rfl (ResOne.cellA (by rfl) (by infer_instance) (by rfl)) (ResOne.tmp rfl)) _ ⟨_, rfl, rfl⟩ (by (repeat (first | exact Ent.refl _ | exact Ent.nil | (apply Ent.pick; focus ((repeat (first | exact Rem.here | apply Rem.there)); done)) | apply Ent.drop)))
    · have hmay' : mayP (partR seq next fin es bs) = false := by simpa using hmay
      have ho : mayOr (partR seq next fin es bs) = zeroP := if_neg hmay
      rw [ho, hmay']
      simp only [partR] at hmay'
      rw [hmay'] at cM
      repeat' (first
    | refine swl_op ?_
    | (refine s1_move ?_; refine sc_r (R_move (by rfl)) (by rfl) ?_)
    | (refine s1_load ?_; refine sc_r (L_load_all (by rfl) (by infer_instance) (by rfl)) (by rfl) ?_)
    | (refine s1_assign ?_; refine sc_r (R_assign (by rfl)) (by rfl) ?_)
    | (refine s1_bin ?_; refine sc_r (R_lss (by rfl) (by rfl)) (by rfl) ?_)
    | (refine s1_call ?_; first | (refine sc_c (by rfl) (C_call (by rfl) (by infer_instance) (by rfl) (by rfl) (cM _ (by infer_instance))) (by rfl) ?_; rintro _ _ ⟨rfl, rfl⟩) | refine sc_r (R_len (by rfl)) (by rfl) ?_)
    | (refine s1_store ?_; (refine sc_w (by rfl) (W_storeAll (by rfl) (by rfl) (by infer_instance) (by rfl) (by rfl) (by rfl)) (by rfl) ?_; rintro _ _ ⟨rfl, rfl⟩))
    | (refine s1_any ?_; first | refine sc_r (R_not (by rfl)) (by rfl) ?_ | refine sc_r (R_build (by rfl) (by rfl)) (by rfl) ?_)
    | refine swl_nil ?_
    | refine sx_next ?_
    | refine sw_seq ?_
    | refine sw_region ?_
    | refine sx_past_ret ?_
    | refine sx_past_exit ?_
    | refine sx_block_here ?_
    | refine sw_cond_true (by rfl) ?_
    | refine sw_cond_neg (by rfl) (by first | assumption | omega) ?_
    | refine sw_ret ?_
    | refine sw_exit ?_
    | fail)
      refine sx_ret_of (res2 rfl (ResOne.cellA (by rfl) (by infer_instance) (by rfl)) (ResOne.tmp rfl)) _ ⟨_, rfl, rfl⟩ ?_
      --DBG
      repeat (first | apply Ent.drop | exact Ent.vec_nil)
end Go.Proofs.YtjdnflhejfcgdaaDoor

/-
  The law of vaults: parts that it makes.
-/
namespace Go.Proofs.YtjdnflhejfcgdaaDoor
open Go Go.SL Go.Proofs

def ent22 (i : Nat) (b : Int) : EntS := ⟨1 + b % 4, i, b, 0⟩
def ents22 (l : List Int) : List EntS := l.mapIdx ent22
def blks22 (l : List Int) : List (List Int) := l.map allB
def part22 (seq : Int) (l : List Int) : PartS := mayOr (partR seq 0 true (ents22 (l.take 13)) (blks22 (l.take 13)))
theorem ents22_snoc (l : List Int) (b : Int) : ents22 (l ++ [b]) = ents22 l ++ [ent22 l.length b] := by simp [ents22, List.mapIdx_append]
theorem ents22_len (l : List Int) : (ents22 l).length = l.length := by simp [ents22]
theorem allB_by {c : Int} (h : 0 ≤ c ∧ c ≤ 255) : ∀ z ∈ allB c, 0 ≤ z ∧ z ≤ 255 := fun z hz => by rw [(List.mem_replicate.1 hz).2]; exact h

set_option maxHeartbeats 4000000 in
theorem law22_part (seq : Int) (l : List Int) (hby : ∀ z ∈ l, 0 ≤ z ∧ z ≤ 255) {pl : Option Addr} {n cl : Nat} {L : List HP} (hl : SlC L pl 1 n cl (l.map u8c)) :
    Tr Tryd.prog 8 [.int .i64 seq, .slice pl n cl].toArray L (fun v L' => ∃ sP sB sS bs, v = .tuple #[.agg ((part22 seq l).cells sP), sB, sS] ∧ (∀ x ∈ bs, BSok x) ∧ bs.map BS.l = blks22 (l.take 13) ∧
      L' = vec 72 4 ((part22 seq l).l.map EntS.cells) sP :: vec 22 1 (bs.map BS.cell) sB :: blksP 5 bs :: vec 9 1 ((blks22 (l.take 13)).map strC) sS :: L) := by
  have hla : l.length = n := by simpa using hl.len
  have hbd := hl.bd
  refine tr_enter Tryd.func8 rfl Tryd.ntmps8 rfl fun w0 => ?_
  repeat' (first
    | refine swl_op ?_
    | (refine s1_assign ?_; refine sc_r (R_assign (by rfl)) (by rfl) ?_)
    | (refine s1_alloc ?_; (refine sc_w (by rfl) W_allocA (by rfl) ?_; rintro _ _ ⟨_, rfl, rfl⟩))
    | refine swl_nil ?_
    | refine sx_next ?_
    | refine sw_seq ?_
    | refine sw_region ?_
    | refine sw_block ?_
    | fail)
  rename_i b4
  refine sw_ent (Ent.vec_nil (e := 9) (k := 1)) ?_
  refine sw_ent (blks_nil (e := 5)) ?_
  refine sw_ent (Ent.vec_nil (e := 22) (k := 1)) ?_
  refine sw_ent (Ent.vec_nil (e := 72) (k := 4)) ?_
  refine sw_loop (γ := Nat × Value × Value × Value × List BS) (fun q => n - q.1) (fun q => [(0, .int .i64 seq), (1, .slice pl n cl), (4, .pointer (some ⟨b4, 0, none⟩)), (7, q.2.1), (8, q.2.2.1), (9, q.2.2.2.1), (10, .int .i64 q.1)])
    (fun q => vec 72 4 ((ents22 (l.take q.1)).map EntS.cells) q.2.1 :: vec 22 1 (q.2.2.2.2.map BS.cell) q.2.2.1 :: blksP 5 q.2.2.2.2 :: vec 9 1 ((blks22 (l.take q.1)).map strC) q.2.2.2.1 :: pt b4 (.cells #[.int .i64 0, .int .i64 0, .bool false, .slice none 0 0] 34) :: L)
    (fun q => q.1 ≤ n ∧ q.1 ≤ 13 ∧ (∀ x ∈ q.2.2.2.2, BSok x) ∧ q.2.2.2.2.map BS.l = blks22 (l.take q.1)) (0, .slice none 0 0, .slice none 0 0, .slice none 0 0, []) ⟨by simp, by simp, by simp, rfl⟩
    (subE.cons rfl (subE.cons rfl (subE.cons rfl (subE.cons rfl (subE.cons rfl (subE.cons rfl (subE.cons rfl subE.nil))))))) (by simp only [List.take_zero]; (repeat (first | exact Ent.refl _ | exact Ent.nil | (apply Ent.pick; focus ((repeat (first | exact Rem.here | apply Rem.there)); done)) | apply Ent.drop))) ?_
  rintro ⟨k, sE, sB, sS, bs⟩ ⟨hk, hk13, hok, hbs⟩
  dsimp only at hk hk13 hok hbs ⊢
  by_cases hlt : k < n ∧ k < 13
  · obtain ⟨b1, o1, rfl⟩ := hl.ptr (by omega)
    have hk1 : k < l.length := by omega
    have he1 := u8_get hk1
    have hz := hby _ (List.getElem_mem hk1)
    have htk := List.take_succ_eq_append_getElem hk1
    have hlk : (l.take k).length = k := by rw [List.length_take]; omega
    generalize l[k] = z at *
    have hb22 : blks22 (l.take k ++ [z]) = blks22 (l.take k) ++ [allB z] := by simp [blks22]
    have he22 := ents22_snoc (l.take k) z
    rw [hlk] at he22
    rw [← htk] at hb22 he22
    have hle : ((ents22 (l.take k)).map EntS.cells).length = k := by rw [List.length_map, ents22_len, hlk]
    have hls : ((blks22 (l.take k)).map strC).length = k := by simp [blks22]; omega
    have hlb : (bs.map BS.cell).length = k := by
      have := congrArg List.length hbs
      simp [blks22] at this ⊢; omega
    have hEC : ∀ A : List (Array Value), (ents22 (l.take (k + 1))).map EntS.cells = (ents22 (l.take k)).map EntS.cells ++ [#[.int .i64 (1 + z % 4), .int .i64 k, .int .i64 z, .int .u32 0]] := fun _ => by rw [he22, List.map_append]; rfl
    have hSC : (blks22 (l.take (k + 1))).map strC = (blks22 (l.take k)).map strC ++ [#[.string (strOfNums (allB z))]] := by rw [hb22, List.map_append]; rfl
    have hEC' := hEC []
    clear hEC
    generalize (ents22 (l.take k)).map EntS.cells = elsE at *
    generalize (blks22 (l.take k)).map strC = elsS at *
    have cA := fun (L : List HP) => law4_All z (L := L)
    repeat' (first
    | refine swl_op ?_
    | (refine s1_move ?_; refine sc_r (R_move (by rfl)) (by rfl) ?_)
    | (refine s1_load ?_; refine sc_r (L_load_el1 (by rfl) (by infer_instance) (by omega) (by first | assumption | rfl)) (by rfl) ?_)
    | (refine s1_assign ?_; refine sc_r (R_assign (by rfl)) (by rfl) ?_)
    | (refine s1_pick ?_; refine sc_r (R_pick_t (by rfl) (by rfl)) (by rfl) ?_)
    | (refine s1_bin ?_; first | refine sc_r (R_lss (by rfl) (by rfl)) (by rfl) ?_ | refine sc_r (R_add64 (by rfl) (by rfl) (by omega)) (by rfl) ?_ | refine sc_r (R_rem (by rfl) (by rfl) (by omega)) (by rfl) ?_)
    | (refine s1_call ?_; first | (refine sc_c (by rfl) (C_call (by rfl) (by infer_instance) (by rfl) (by rfl) (cA _)) (by rfl) ?_; rintro _ _ ⟨bb, rfl, hokb, rfl⟩) | (refine sc_w (by rfl) (W_appendA (by rfl) (by rfl) (by focus ((repeat (first | exact Rem.here | apply Rem.there)); done)) (by infer_instance) (sizesL_mem (by rfl)) (onesL_mem (by rfl)) (by omega)) (by rfl) ?_; rintro vv _ rfl; refine ⟨by (repeat (first | exact Ent.refl _ | exact Ent.nil | (apply Ent.pick; focus ((repeat (first | exact Rem.here | apply Rem.there)); done)) | apply Ent.drop)), ?_⟩; refine swh_know (fun h H => vec_fact H) ?_; rintro ⟨pv, cv, rfl, hv⟩) | (refine sc_w (by rfl) (W_appendA (by rfl) (by rfl) (by focus ((repeat (first | exact Rem.here | apply Rem.there)); done)) (by infer_instance) (sizesL_mem (by rfl)) (onesL_mem (by rfl)) (by omega)) (by rfl) ?_; rintro vv2 _ rfl; refine swl_know (fun h H => vec_fact H) ?_; rintro ⟨pv2, cv2, rfl, hv2⟩) | refine sc_r (R_len (by rfl)) (by rfl) ?_)
    | (refine s1_indexAddr ?_; refine sc_r (R_indexAddr (by rfl) (by rfl) (by omega)) (by rfl) ?_)
    | (refine s1_conv ?_; first | refine sc_r (R_conv64 (by rfl) (by omega)) (by rfl) ?_ | refine sc_r (R_bytes_string (l := allB z) (by rfl) (SlC.ofVec (els := (allB z).map u8c) (hn := hokb) (hl := ⟨by rw [List.length_map, allB_len]⟩))) (by rfl) ?_)
    | (refine s1_any ?_; first | refine sc_r (R_buildL (by rfl) (by rfl)) (by rfl) ?_ | (refine sc_w (by rfl) (W_buildSliceV (by rfl) (by rfl) (by rfl) (by rfl) (by rfl) (by rfl) (by rfl)) (by rfl) ?_; rintro _ _ ⟨_, rfl, rfl, _, _⟩))
    | refine swl_nil ?_
    | refine sx_next ?_
    | refine sw_seq ?_
    | refine sw_region ?_
    | refine sw_block ?_
    | refine swl_g_on (by rfl) (by rfl) ?_
    | refine swl_g_pos (by rfl) (by rfl) (by first | assumption | omega) ?_
    | refine sx_block_normal ?_
    | refine sw_cond_pos (by rfl) (by first | assumption | omega) ?_
    | refine sw_skip ?_
    | refine swh_lt (by rfl) (fun _ _ => wanted_none) ?_
    | refine swh_hv (by rfl) (fun _ _ => wanted_none) ?_
    | refine swh_nil ?_
    | (apply And.intro; focus ((repeat (first | exact Ent.refl _ | exact Ent.nil | (apply Ent.pick; focus ((repeat (first | exact Rem.here | apply Rem.there)); done)) | apply Ent.drop)); done))
    | (refine sw_region_draw L [(0, true), (1, true), (2, true), (3, true), (4, true), (5, true), (6, true), (7, true), (8, true), (9, true), (10, true), (11, true), (12, true), (13, true), (14, true), (15, false), (16, false), (17, true)] follows ?_ ?_ ?_ ?_; (focus rfl); (focus (decide +kernel)); (focus ((repeat (first | exact Ent.refl _ | exact Ent.nil | (apply Ent.pick; focus ((repeat (first | exact Rem.here | apply Rem.there)); done)) | apply Ent.drop)); done)))
    | fail)
    rename_i bbA hokA w1 i1 i2 pvB cvB hvB w2 i3 i4
    refine sx_back (k + 1, .slice pv (elsE ++ [#[Value.int .i64 (1 + z % 4), Value.int .i64 k, Value.int .i64 z, Value.int .u32 0]]).length cv, .slice pvB (bs.map BS.cell ++ [#[Value.slice (some ⟨bbA, 0, none⟩) 128 128]]).length cvB, .slice pv2 (elsS ++ [#[Value.string (strOfNums (allB z))]]).length cv2, bs ++ [⟨some ⟨bbA, 0, none⟩, 128, 128, allB z⟩])
      (by simp only; omega) ⟨by simp only; omega, by simp only; omega, ?_, ?_⟩ (subE.cons rfl (subE.cons rfl (subE.cons rfl (subE.cons rfl (subE.cons rfl (subE.cons rfl (subE.cons rfl subE.nil))))))) ?_
    · intro x hx
      rcases List.mem_append.1 hx with hx | hx
      · exact hok x hx
      · rw [List.mem_singleton.1 hx]
        exact ⟨hokA, allB_len z⟩
    · dsimp only
      rw [List.map_append, hbs, hb22]; rfl
    · dsimp only
      rw [hEC', hSC, List.map_append]
      refine Ent.pick (by focus ((repeat (first | exact Rem.here | apply Rem.there)); done)) (Ent.pick (by focus ((repeat (first | exact Rem.here | apply Rem.there)); done)) (Ent.trans ?_ (blks_snoc bs ⟨some ⟨bbA, 0, none⟩, 128, 128, allB z⟩)))
      (repeat (first | exact Ent.refl _ | exact Ent.nil | (apply Ent.pick; focus ((repeat (first | exact Rem.here | apply Rem.there)); done)) | apply Ent.drop))
  · have hkt : l.take k = l.take 13 := by
      rcases Nat.lt_or_ge k n with h | h
      · rw [show k = 13 by omega]
      · rw [List.take_of_length_le (by omega), List.take_of_length_le (by omega)]
    rw [hkt] at hbs ⊢
    refine sw_know (fun h H => vec_fact H) ?_
    rintro ⟨pE, cE, rfl, hvE⟩
    refine sw_know (fun h H => vec_fact (Ent.own (show Ent _ [vec 9 1 ((blks22 (l.take 13)).map strC) sS] from by (repeat (first | exact Ent.refl _ | exact Ent.nil | (apply Ent.pick; focus ((repeat (first | exact Rem.here | apply Rem.there)); done)) | apply Ent.drop))) H)) ?_
    rintro ⟨pS, cS, rfl, hvS⟩
    have hln : (blks22 (l.take 13)).length ≤ 13 := by simp [blks22]; omega
    have cO := fun (L : List HP) (h1 : SlC L pE 4 ((ents22 (l.take 13)).map EntS.cells).length cE ((ents22 (l.take 13)).map EntS.cells)) (h2 : SlC L pS 1 ((blks22 (l.take 13)).map strC).length cS ((blks22 (l.take 13)).map strC)) =>
      ref6_Of seq 0 true (ents22 (l.take 13)) (blks22 (l.take 13)) (by simp [blks22, ents22]) (by omega) (by
        intro b hb
        obtain ⟨z, _, rfl⟩ := List.mem_map.1 hb
        exact allB_len z) (by
        intro b hb
        obtain ⟨z, hz, rfl⟩ := List.mem_map.1 hb
        exact allB_by (hby z (List.mem_of_mem_take hz))) (L := L) h1 h2
    have hP : part22 seq l = mayOr (partR seq 0 true (ents22 (l.take 13)) (blks22 (l.take 13))) := rfl
    rw [← hP] at cO
    simp only [PartS.cells] at cO ⊢
    generalize mayP (partR seq 0 true (ents22 (l.take 13)) (blks22 (l.take 13))) = mb at *
    repeat' (first
    | refine swl_op ?_
    | (refine s1_move ?_; refine sc_r (R_move (by rfl)) (by rfl) ?_)
    | (refine s1_load ?_; refine sc_r (L_load_all (by rfl) (by infer_instance) (by rfl)) (by rfl) ?_)
    | (refine s1_assign ?_; refine sc_r (R_assign (by rfl)) (by rfl) ?_)
    | (refine s1_pick ?_; first | refine sc_r (R_pick_t (by rfl) (by rfl)) (by rfl) ?_ | refine sc_r (R_pick_f (by rfl) (by rfl)) (by rfl) ?_)
    | (refine s1_bin ?_; refine sc_r (R_lss (by rfl) (by rfl)) (by rfl) ?_)
    | (refine s1_call ?_; first | (refine sc_c (by rfl) (C_call (by rfl) (by infer_instance) (by rfl) (by rfl) (cO _ (by infer_instance) (by infer_instance))) (by rfl) ?_; rintro _ _ ⟨sP, rfl, rfl⟩; refine swl_know (fun h H => vec_fact H) ?_; rintro ⟨pP, cP, rfl, hvP⟩) | refine sc_r (R_len (by rfl)) (by rfl) ?_)
    | (refine s1_store ?_; (refine sc_w (by rfl) (W_storeAll (by rfl) (by rfl) (by infer_instance) (by rfl) (by rfl) (by rfl)) (by rfl) ?_; rintro _ _ ⟨rfl, rfl⟩))
    | (refine s1_alloc ?_; (refine sc_w (by rfl) W_allocA (by rfl) ?_; rintro _ _ ⟨_, rfl, rfl⟩))
    | (refine s1_any ?_; refine sc_r (R_extract (by rfl) (by rfl)) (by rfl) ?_)
    | refine swl_nil ?_
    | refine sx_next ?_
    | refine sw_seq ?_
    | refine sw_region ?_
    | refine swl_g_on (by rfl) (by rfl) ?_
    | refine swl_g_off (by rfl) (by rfl) (by rfl) (by rfl) ?_
    | refine swl_g_dec (by rfl) (by rfl) (fun hp => ?_) (fun hp => ?_)
    | refine sx_past_exit ?_
    | refine sx_block_here ?_
    | refine sw_cond_false (by rfl) ?_
    | refine sw_cond_neg (by rfl) (by first | assumption | omega) ?_
    | refine sw_ret ?_
    | refine sw_exit ?_
    | fail)
    all_goals
      refine sx_ret_of (res3 rfl (ResOne.cellA (by rfl) (by infer_instance) (by rfl)) (ResOne.tmp rfl) (ResOne.tmp rfl)) _ ⟨_, _, _, bs, rfl, hok, hbs, rfl⟩ (by (repeat (first | exact Ent.refl _ | exact Ent.nil | (apply Ent.pick; focus ((repeat (first | exact Rem.here | apply Rem.there)); done)) | apply Ent.drop)))
end Go.Proofs.YtjdnflhejfcgdaaDoor

/-
  Checksums by halves are the document's, bit by bit.
-/
namespace Go.Proofs.YtjdnflhejfcgdaaDoor
open Go Go.SL Go.Proofs

theorem bXorN (a b : Nat) (ha : a < 4294967296) (hb : b < 4294967296) : bXor .u32 (a : Int) (b : Int) = ((a ^^^ b : Nat) : Int) := by
  unfold bXor
  have h1 : (BitVec.ofInt IntKind.u32.bits (a : Int) ^^^ BitVec.ofInt IntKind.u32.bits (b : Int)).toNat = a ^^^ b := by
    rw [BitVec.toNat_xor]
    simp only [IntKind.bits, BitVec.ofInt_natCast, BitVec.toNat_ofNat]
    rw [Nat.mod_eq_of_lt (by omega), Nat.mod_eq_of_lt (by omega)]
  rw [h1]
  have h2 : a ^^^ b < 2 ^ 32 := Nat.xor_lt_two_pow (by omega) (by omega)
  exact wrap_u32_of (by omega)
def stepN (w : Nat) : Nat := if w % 2 = 1 then (w / 2) ^^^ 2197175160 else w / 2
theorem stepN_lt {w : Nat} (h : w < 4294967296) : stepN w < 4294967296 := by
  unfold stepN
  split
  · exact Nat.xor_lt_two_pow (n := 32) (by omega) (by omega)
  · omega
theorem refStepN {w : Nat} (h : w < 4294967296) : refStep (w : Int) = (stepN w : Int) := by
  unfold refStep stepN
  by_cases hp : w % 2 = 1
  · rw [if_pos hp, if_pos (by omega), ← bXorN _ _ (by omega) (by omega)]; rfl
  · rw [if_neg hp, if_neg (by omega)]; rfl
theorem stepN_xor (a b : Nat) : stepN (a ^^^ b) = stepN a ^^^ stepN b := by
  have h1 : (a ^^^ b) / 2 = a / 2 ^^^ b / 2 := by
    apply Nat.eq_of_testBit_eq
    intro i
    simp [Nat.testBit_div_two, Nat.testBit_xor]
  have h2 : (a ^^^ b) % 2 = 1 ↔ ¬ (a % 2 = 1 ↔ b % 2 = 1) := by
    have ha := Nat.mod_two_eq_one_iff_testBit_zero (x := a)
    have hb := Nat.mod_two_eq_one_iff_testBit_zero (x := b)
    have hc := Nat.mod_two_eq_one_iff_testBit_zero (x := a ^^^ b)
    rw [Nat.testBit_xor] at hc
    rw [ha, hb, hc]
    cases a.testBit 0 <;> cases b.testBit 0 <;> decide
  unfold stepN
  rw [h1]
  by_cases ha : a % 2 = 1 <;> by_cases hb : b % 2 = 1
  · rw [if_pos ha, if_pos hb, if_neg (by rw [h2]; simp [ha, hb])]
    rw [Nat.xor_assoc, Nat.xor_comm (b / 2), ← Nat.xor_assoc 2197175160, Nat.xor_self, Nat.zero_xor]
  · rw [if_pos ha, if_neg hb, if_pos (by rw [h2]; simp [ha, hb])]
    rw [Nat.xor_assoc, Nat.xor_assoc, Nat.xor_comm (b / 2)]
  · rw [if_neg ha, if_pos hb, if_pos (by rw [h2]; simp [ha, hb])]
    rw [Nat.xor_assoc]
  · rw [if_neg ha, if_neg hb, if_neg (by rw [h2]; simp [ha, hb])]
def step4 (w : Nat) : Nat := stepN (stepN (stepN (stepN w)))
theorem step4_xor (a b : Nat) : step4 (a ^^^ b) = step4 a ^^^ step4 b := by simp only [step4, stepN_xor]
theorem stepN_two (q : Nat) : stepN (2 * q) = q := by unfold stepN; rw [if_neg (by omega)]; omega
theorem step4_16 (q : Nat) : step4 (16 * q) = q := by
  unfold step4
  rw [show 16 * q = 2 * (2 * (2 * (2 * q))) by omega, stepN_two, stepN_two, stepN_two, stepN_two]
theorem xor_16 (q r : Nat) (h : r < 16) : 16 * q + r = (16 * q) ^^^ r := by
  apply Nat.eq_of_testBit_eq
  intro j
  rw [Nat.testBit_xor, show (16 : Nat) = 2 ^ 4 from rfl, Nat.testBit_two_pow_mul_add _ h, Nat.testBit_two_pow_mul]
  by_cases hj : j < 4
  · rw [if_pos hj, decide_eq_false (by omega)]; simp
  · rw [if_neg hj, decide_eq_true (by omega)]
    have : r.testBit j = false := Nat.testBit_lt_two_pow (Nat.lt_of_lt_of_le h (by
      rw [show (16 : Nat) = 2 ^ 4 from rfl]; exact Nat.pow_le_pow_right (by omega) (by omega)))
    rw [this]; simp
theorem step4_tab : ∀ r < 16, ((step4 r : Nat) : Int) = halvesL.getD r 0 := by decide +kernel
theorem step4_lt {w : Nat} (h : w < 4294967296) : step4 w < 4294967296 := stepN_lt (stepN_lt (stepN_lt (stepN_lt h)))
theorem crcHalfN {w : Nat} (h : w < 4294967296) : crcHalf (w : Int) = (step4 w : Int) := by
  have h1 : bShr .u32 (w : Int) 4 = ((w / 16 : Nat) : Int) := by
    unfold bShr
    simp only [IntKind.bits]
    rw [Int.fdiv_eq_ediv_of_nonneg _ (by decide)]
    rfl
  have h2 : bAnd .u32 (w : Int) 15 = ((w % 16 : Nat) : Int) := by
    unfold bAnd
    have h1 : (BitVec.ofInt IntKind.u32.bits (w : Int) &&& BitVec.ofInt IntKind.u32.bits 15).toNat = w % 16 := by
      rw [BitVec.toNat_and]
      simp only [IntKind.bits, BitVec.ofInt_natCast, BitVec.toNat_ofNat]
      rw [Nat.mod_eq_of_lt (by omega), show (BitVec.ofInt 32 15).toNat = 2 ^ 4 - 1 from rfl, Nat.and_two_pow_sub_one_eq_mod]
    rw [h1]
    exact wrap_u32_of (by omega)
  unfold crcHalf
  rw [h1, h2, Int.toNat_natCast, ← step4_tab _ (by omega)]
  have h3 := step4_lt (show w % 16 < 4294967296 by omega)
  rw [bXorN _ _ (by omega) h3]
  congr 1
  conv => rhs; rw [show w = 16 * (w / 16) + w % 16 by omega, xor_16 _ _ (by omega), step4_xor, step4_16]
theorem refSteps8 {w : Nat} (h : w < 4294967296) : refSteps 8 (w : Int) = (step4 (step4 w) : Int) := by
  have s1 := stepN_lt h
  have s2 := stepN_lt s1
  have s3 := stepN_lt s2
  have s4 := stepN_lt s3
  have s5 := stepN_lt s4
  have s6 := stepN_lt s5
  have s7 := stepN_lt s6
  simp only [refSteps]
  rw [refStepN h, refStepN s1, refStepN s2, refStepN s3, refStepN s4, refStepN s5, refStepN s6, refStepN s7]
  rfl
theorem crcByte_ref {w z : Int} (hw : 0 ≤ w ∧ w ≤ 4294967295) (hz : 0 ≤ z ∧ z ≤ 255) : crcByte w z = refSteps 8 (bXor .u32 w z) := by
  unfold crcByte
  rw [wrap_u32_of (by omega)]
  have hb := bXor32_bd w z
  generalize bXor .u32 w z = u at *
  obtain ⟨U, rfl⟩ := Int.eq_ofNat_of_zero_le hb.1
  have hU : U < 4294967296 := by omega
  rw [crcHalfN hU, crcHalfN (step4_lt hU), refSteps8 hU]
theorem crcW_ref : ∀ (l : List Int) (w : Int), (∀ z ∈ l, 0 ≤ z ∧ z ≤ 255) → 0 ≤ w ∧ w ≤ 4294967295 → l.foldl (fun w z => refSteps 8 (bXor .u32 w z)) w = crcW w l
  | [], _, _, _ => rfl
  | z :: r, w, h, hw => by
    have hz := h z (by simp)
    unfold crcW
    rw [List.foldl_cons, List.foldl_cons, crcByte_ref hw hz]
    exact crcW_ref r _ (fun y hy => h y (by simp [hy])) (refSteps_bd (bXor32_bd _ _) 8)
theorem bNotN {a : Int} (h : 0 ≤ a ∧ a ≤ 4294967295) : bNot .u32 a = 4294967295 - a := by
  obtain ⟨A, rfl⟩ := Int.eq_ofNat_of_zero_le h.1
  have h0 : bNot .u32 (A : Int) = bXor .u32 ((4294967295 : Nat) : Int) (A : Int) := rfl
  rw [h0, bXorN _ _ (by omega) (by omega)]
  have h1 : 4294967295 ^^^ A = (BitVec.allOnes 32 ^^^ BitVec.ofNat 32 A).toNat := by
    rw [BitVec.toNat_xor, BitVec.toNat_allOnes, BitVec.toNat_ofNat, Nat.mod_eq_of_lt (by omega)]
  rw [h1, BitVec.xor_comm, BitVec.xor_allOnes, BitVec.toNat_not, BitVec.toNat_ofNat, Nat.mod_eq_of_lt (by omega)]
  omega
theorem refSum_crc {l : List Int} (h : ∀ z ∈ l, 0 ≤ z ∧ z ≤ 255) : refSum l = crcSum [l] := by
  unfold refSum refW crcSum
  rw [crcW_ref l _ h (by omega)]
  simp only [List.foldl_cons, List.foldl_nil]
  have : 0 ≤ crcW 4294967295 l ∧ crcW 4294967295 l ≤ 4294967295 := by
    rw [← crcW_ref l _ h (by omega)]; exact refW_bd l
  rw [bNotN this]
end Go.Proofs.YtjdnflhejfcgdaaDoor

/-
  Summaries: what is encoded is decoded.
-/
namespace Go.Proofs.YtjdnflhejfcgdaaDoor
open Go Go.SL Go.Proofs

theorem numB6 {v : Int} (h : 0 ≤ v ∧ v < 281474976710656) : numB ⟨6, v⟩ = [v / 1099511627776, v / 4294967296 % 256, v / 16777216 % 256, v / 65536 % 256, v / 256 % 256, v % 256] := by
  show [IntKind.u8.wrap (bShr .u64 v (8 * (((5 : Nat) : Int)))), IntKind.u8.wrap (bShr .u64 v (8 * (((4 : Nat) : Int)))), IntKind.u8.wrap (bShr .u64 v (8 * (((3 : Nat) : Int)))), IntKind.u8.wrap (bShr .u64 v (8 * (((2 : Nat) : Int)))), IntKind.u8.wrap (bShr .u64 v (8 * (((1 : Nat) : Int)))), IntKind.u8.wrap (bShr .u64 v (8 * (((0 : Nat) : Int))))] = _
  rw [byte_at h.1 0 (by omega), byte_at h.1 1 (by omega), byte_at h.1 2 (by omega), byte_at h.1 3 (by omega), byte_at h.1 4 (by omega), byte_at h.1 5 (by omega)]
  have e0 : v / ((2 ^ (8 * 0) : Nat) : Int) % 256 = v % 256 := by simp
  have e1 : v / ((2 ^ (8 * 1) : Nat) : Int) % 256 = v / 256 % 256 := by simp
  have e2 : v / ((2 ^ (8 * 2) : Nat) : Int) % 256 = v / 65536 % 256 := by simp
  have e3 : v / ((2 ^ (8 * 3) : Nat) : Int) % 256 = v / 16777216 % 256 := by simp
  have e4 : v / ((2 ^ (8 * 4) : Nat) : Int) % 256 = v / 4294967296 % 256 := by simp
  have e5 : v / ((2 ^ (8 * 5) : Nat) : Int) % 256 = v / 1099511627776 := by
    rw [show ((2 ^ (8 * 5) : Nat) : Int) = 1099511627776 from rfl]; omega
  rw [e0, e1, e2, e3, e4, e5]
theorem getN6 {v : Int} (h : 0 ≤ v ∧ v < 281474976710656) : getN 0 [v / 1099511627776, v / 4294967296 % 256, v / 16777216 % 256, v / 65536 % 256, v / 256 % 256, v % 256] = v := by
  rw [getN_cons (by omega) (by omega), getN_cons (by omega) (by omega), getN_cons (by omega) (by omega), getN_cons (by omega) (by omega), getN_cons (by omega) (by omega), getN_cons (by omega) (by omega), getN_nil]; omega

def headB (p : PartS) : List Int := [104, 115, 117, 109, p.seq / 1099511627776, p.seq / 4294967296 % 256, p.seq / 16777216 % 256, p.seq / 65536 % 256, p.seq / 256 % 256, p.seq % 256,
  p.next / 16777216, p.next / 65536 % 256, p.next / 256 % 256, p.next % 256, p.l.length, finI p.fin]
def entB (e : EntS) : List Int := [e.kind, e.ino, e.index / 256, e.index % 256, e.sum / 16777216, e.sum / 65536 % 256, e.sum / 256 % 256, e.sum % 256]
theorem finI_bd (b : Bool) : 0 ≤ finI b ∧ finI b ≤ 1 := by cases b <;> decide
theorem packF_head {p : PartS} (h : mayP p = true) : packF (headN p) = headB p := by
  have hm := (mayP_is h).1
  have hf := finI_bd p.fin
  simp only [packF, headN, List.flatMap_cons, List.flatMap_nil]
  rw [numB4 (v := 1752397165) (by omega), numB6 (by omega), numB4 (v := p.next) (by omega), numB1 (v := p.l.length) (by omega), numB1 (by omega)]
  rfl
theorem packF_ent {e : EntS} (h : 1 ≤ e.kind ∧ e.kind ≤ 4 ∧ 0 ≤ e.ino ∧ e.ino ≤ 255 ∧ 0 ≤ e.index ∧ e.index ≤ 65535) (hs : 0 ≤ e.sum ∧ e.sum ≤ 4294967295) : packF (entN e) = entB e := by
  simp only [packF, entN, List.flatMap_cons, List.flatMap_nil]
  rw [numB1 (by omega), numB1 (by omega), numB2 (by omega), numB4 (by omega)]
  rfl
theorem packF_ents : ∀ {l : List EntS}, (∀ e ∈ l, 1 ≤ e.kind ∧ e.kind ≤ 4 ∧ 0 ≤ e.ino ∧ e.ino ≤ 255 ∧ 0 ≤ e.index ∧ e.index ≤ 65535) → (∀ e ∈ l, 0 ≤ e.sum ∧ e.sum ≤ 4294967295) → packF (l.flatMap entN) = l.flatMap entB
  | [], _, _ => rfl
  | e :: r, h, hs => by
    have h1 := packF_ents (l := r) (fun x hx => h x (by simp [hx])) (fun x hx => hs x (by simp [hx]))
    have h2 := packF_ent (h e (by simp)) (hs e (by simp))
    simp only [packF, List.flatMap_cons, List.flatMap_append] at h1 h2 ⊢
    rw [h1, h2]
theorem packF_enc {p : PartS} (h : mayP p = true) (hs : sumsOK p) : packF (encN p) = headB p ++ p.l.flatMap entB := by
  rw [← packF_head h, ← packF_ents (mayP_is h).2 hs]
  simp [packF, encN]
theorem entB_drop : ∀ (l : List EntS) (k : Nat) (h : k < l.length) (r : List Int), (l.flatMap entB ++ r).drop (8 * k) = entB l[k] ++ ((l.drop (k + 1)).flatMap entB ++ r)
  | e :: l, 0, _, r => by simp [entB]
  | e :: l, k + 1, h, r => by
    have h1 := entB_drop l k (by simpa using h) r
    rw [List.flatMap_cons, List.append_assoc, show 8 * (k + 1) = (entB e).length + 8 * k by simp [entB]; omega, ← List.drop_drop, List.drop_left, h1]
    simp
theorem decode_enc {p : PartS} (h : mayP p = true) (hs : sumsOK p) : decodeF (encF p) = (p, 0) := by
  obtain ⟨hm, he⟩ := mayP_is h
  have hlen := encP_len h hs
  have h124 : (packF (encN p)).length ≤ 124 := by omega
  have hfb := finI_bd p.fin
  have hB : encF p = headB p ++ (p.l.flatMap entB ++ (List.replicate (124 - (packF (encN p)).length) 0 ++ sumB (crcSum [padF 124 (packF (encN p))]))) := by
    unfold encF sealF
    conv => lhs; rw [show padF 124 (packF (encN p)) ++ sumB (crcSum [padF 124 (packF (encN p))]) = packF (encN p) ++ (List.replicate (124 - (packF (encN p)).length) 0 ++ sumB (crcSum [padF 124 (packF (encN p))])) by rw [← List.append_assoc]; rfl]
    conv => lhs; arg 1; rw [packF_enc h hs]
    rw [List.append_assoc]
  have hheld : heldF (encF p) = true := held_seal h124
  have htake : (encF p).take 124 = padF 124 (packF (encN p)) := seal_take h124
  have hclr := clear_pad h124
  rw [hlen] at hclr
  generalize List.replicate (124 - (packF (encN p)).length) 0 ++ sumB (crcSum [padF 124 (packF (encN p))]) = R at hB
  have hH : unpackF (encF p) [4, 6, 4, 1, 1] = [1752397165, p.seq, p.next, p.l.length, finI p.fin] := by
    rw [hB]
    show [getN 0 [104, 115, 117, 109], getN 0 [p.seq / 1099511627776, p.seq / 4294967296 % 256, p.seq / 16777216 % 256, p.seq / 65536 % 256, p.seq / 256 % 256, p.seq % 256], getN 0 [p.next / 16777216, p.next / 65536 % 256, p.next / 256 % 256, p.next % 256], getN 0 [(p.l.length : Int)], getN 0 [finI p.fin]] = _
    rw [getN6 (by omega), getN4 (by omega), getN1 (by omega), getN1 (by omega)]
    rw [show getN 0 [104, 115, 117, 109] = 1752397165 by decide]
  have d0 : decH (encF p) 0 = 1752397165 := by unfold decH; rw [hH]; rfl
  have d1 : decH (encF p) 1 = p.seq := by unfold decH; rw [hH]; rfl
  have d2 : decH (encF p) 2 = p.next := by unfold decH; rw [hH]; rfl
  have d3 : decH (encF p) 3 = p.l.length := by unfold decH; rw [hH]; rfl
  have d4 : decH (encF p) 4 = finI p.fin := by unfold decH; rw [hH]; rfl
  have hE : ∀ k (hk : k < p.l.length), decE (encF p) k = p.l[k] := fun k hk => by
    have hek := he _ (List.getElem_mem hk)
    have hsk := hs _ (List.getElem_mem hk)
    have hdr : (encF p).drop (16 + 8 * k) = entB p.l[k] ++ ((p.l.drop (k + 1)).flatMap entB ++ R) := by
      rw [hB, show 16 + 8 * k = (headB p).length + 8 * k from rfl, ← List.drop_drop, List.drop_left]
      exact entB_drop p.l k hk R
    unfold decE
    rw [hdr]
    generalize p.l[k] = e at *
    have hu : unpackF (entB e ++ ((p.l.drop (k + 1)).flatMap entB ++ R)) [1, 1, 2, 4] = [e.kind, e.ino, e.index, e.sum] := by
      show [getN 0 [e.kind], getN 0 [e.ino], getN 0 [e.index / 256, e.index % 256], getN 0 [e.sum / 16777216, e.sum / 65536 % 256, e.sum / 256 % 256, e.sum % 256]] = _
      rw [getN1 (by omega), getN1 (by omega), getN2 (by omega), getN4 (by omega)]
    rw [hu]
    obtain ⟨a, b, c, d⟩ := e
    simp only [List.getD_cons_zero, List.getD_cons_succ] at hek hsk ⊢
    rw [wrap_i64_of (by omega), wrap_i64_of (by omega), wrap_i64_of (by omega), wrap_u32_of (by omega)]
  have hP : decP (encF p) = p := by
    unfold decP
    rw [d1, d2, d3, d4, wrap_i64_of (by omega), wrap_i64_of (by omega), Int.toNat_natCast]
    refine part_eq ⟨rfl, rfl, ?_⟩ ?_
    · show decide (finI p.fin = 1) = p.fin
      cases p.fin <;> decide
    · show (List.range p.l.length).map (decE (encF p)) = p.l
      apply List.ext_getElem
      · simp
      · intro k h1 h2
        simp only [List.getElem_map, List.getElem_range]
        exact hE k h2
  have hA : decA (encF p) = true := by
    unfold decA
    exact decide_eq_true ⟨d0, by rw [d3]; omega, by rw [d4]; omega⟩
  unfold decodeF
  rw [hheld, hA, d3, htake, hP, h]
  rw [show clearF (padF 124 (packF (encN p))) (16 + 8 * (p.l.length : Int)) = true from by rw [← hclr]; congr 1]
  rfl
end Go.Proofs.YtjdnflhejfcgdaaDoor

/-
  Vaults: what is put, and what is had.
-/
namespace Go.Proofs.YtjdnflhejfcgdaaDoor
open Go Go.SL Go.Proofs

theorem vol22 {seg : Int} (h : 8 ≤ seg ∧ seg ≤ 13) : volF g22 seg = (16 * seg + 1, (seg - 8) / 3, 0) := by
  have : seg = 8 ∨ seg = 9 ∨ seg = 10 ∨ seg = 11 ∨ seg = 12 ∨ seg = 13 := by omega
  rcases this with rfl | rfl | rfl | rfl | rfl | rfl <;> decide
theorem blocks22 : blocksG g22 = 224 := by decide
theorem where22 {a : Int} (h : 129 ≤ a ∧ a ≤ 224) : (whereOf g22 a).2 = 0 ∧ (whereOf g22 a).1.vol = ((a - 1) / 16 - 8) / 3 := by
  have hs : segOf g22 a = ((a - 1) / 16, 0) := by
    unfold segOf
    rw [if_pos (by decide), if_pos (by rw [blocks22]; omega)]
  unfold whereOf
  rw [hs, if_pos rfl, if_neg (by show ¬ (a - 1) / 16 < 8; omega)]
  exact ⟨rfl, rfl⟩

section
variable {gens : List Int} {s : DevS} {vl : List (Nat × DevS)} {val : Int → List Int}
def putA (val : Int → List Int) (a : Int) (bs : List (List Int)) : Int → List Int := fun c => if a ≤ c ∧ c < a + bs.length then bs.getD (c - a).toNat [] else val c
/-- only the volume k is touched -/
def Only (k : Nat) (st st' : DV) : Prop := st'.1 = st.1 ∧ st'.2.length = st.2.length ∧ ∀ j, j ≠ k → st'.2[j]? = st.2[j]?
theorem Only.rfl' {k : Nat} {st : DV} : Only k st st := ⟨rfl, rfl, fun _ _ => rfl⟩
theorem Only.trans {k : Nat} {a b c : DV} (h : Only k a b) (h' : Only k b c) : Only k a c := ⟨h'.1.trans h.1, h'.2.1.trans h.2.1, fun j hj => (h'.2.2 j hj).trans (h.2.2 j hj)⟩
theorem Only.setV {k : Nat} {s : DevS} {vl : List (Nat × DevS)} (f : DevS → DevS) : Only k (s, vl) (s, setV vl k f) := by
  refine ⟨rfl, setV_len _ _ _, fun j hj => ?_⟩
  show (Go.Proofs.YtjdnflhejfcgdaaDoor.setV vl k f)[j]? = vl[j]?
  unfold Go.Proofs.YtjdnflhejfcgdaaDoor.setV
  rw [List.getElem?_modify]
  have : ¬ k = j := fun e => hj e.symm
  simp [this]
theorem only_write {s : DevS} {vl : List (Nat × DevS)} {a : Int} (h : 129 ≤ a ∧ a ≤ 224) {k : Nat} (hk : ((a - 1) / 16 - 8) / 3 = k) (b : List Int) : Only k (s, vl) (wrMD g22 s a b, wrMV g22 vl a b) := by
  obtain ⟨h1, h2⟩ := where22 h
  have e1 : wrMD g22 s a b = s := by unfold wrMD; rw [if_neg (by omega)]
  have e2 : wrMV g22 vl a b = setV vl k (fun s => wrS s (idxAt (whereOf g22 a).1) b) := by
    unfold wrMV
    rw [if_pos ⟨h1, by omega⟩, h2, hk, Int.toNat_natCast]
  rw [e1, e2]
  exact Only.setV _
theorem wrAll_mv : ∀ (bs : List (List Int)) {s : DevS} {vl : List (Nat × DevS)} {val : Int → List Int} (_ : MV g22 gens s vl val) {a : Int} (_ : ∀ b ∈ bs, b.length = 128) (_ : 129 ≤ a ∧ a + bs.length ≤ 225) {k : Nat} (_ : ∀ c, a ≤ c → c < a + bs.length → ((c - 1) / 16 - 8) / 3 = k),
    ∃ s' vl', wrAll g22 (s, vl) a bs = (0, (s', vl')) ∧ MV g22 gens s' vl' (putA val a bs) ∧ Only k (s, vl) (s', vl')
  | [], s, vl, val, h, a, _, _, k, _ => ⟨s, vl, rfl, by
      have : putA val a [] = val := by funext c; unfold putA; rw [if_neg (by simp only [List.length_nil]; omega)]
      rw [this]; exact h, Only.rfl'⟩
  | b :: r, s, vl, val, h, a, hb, ha, k, hk => by
    have hlb := hb b (by simp)
    have ha' : 129 ≤ a ∧ a + (r.length : Int) + 1 ≤ 225 := by simp only [List.length_cons] at ha; omega
    have hin : 1 ≤ a ∧ a ≤ blocksG g22 := by rw [blocks22]; omega
    have h0 := h.wrME hin
    have h1 := h.write hin hlb
    obtain ⟨s', vl', e, hM, hO⟩ := wrAll_mv r h1 (a := a + 1) (fun x hx => hb x (by simp [hx])) (by omega) (k := k) (fun c c1 c2 => hk c (by omega) (by simp only [List.length_cons]; omega))
    refine ⟨s', vl', ?_, ?_, (only_write (by omega) (hk a (by omega) (by simp only [List.length_cons]; omega)) b).trans hO⟩
    · unfold wrAll
      rw [hlb]
      show (if wrME g22 s vl a 128 = 0 then _ else _) = _
      rw [if_pos h0]; exact e
    · have : putA (updA val a b) (a + 1) r = putA val a (b :: r) := by
        funext c
        unfold putA updA
        simp only [List.length_cons]
        by_cases h1 : c = a
        · subst h1
          rw [if_neg (by omega), if_pos rfl, if_pos (by omega), Int.sub_self]; rfl
        · by_cases h2 : a + 1 ≤ c ∧ c < a + 1 + r.length
          · rw [if_pos h2, if_pos (by omega), show (c - a).toNat = (c - (a + 1)).toNat + 1 by omega]; rfl
          · rw [if_neg h2, if_neg h1, if_neg (by omega)]
      rw [← this]; exact hM

def Clean (s : DevS) (vl : List (Nat × DevS)) : Prop := s.pend = [] ∧ ∀ x ∈ vl, x.2.pend = []
theorem Clean.pb (h : Clean s vl) : PB 0 s vl := ⟨by rw [h.1]; simp, fun x hx => by rw [h.2 x hx]; simp⟩
theorem only_clean {k : Nat} {s' : DevS} {vl' : List (Nat × DevS)} (h : Clean s vl) (hO : Only k (s, vl) (s', vl')) (hk : ∀ (hk : k < vl'.length), vl'[k].2.pend = []) : Clean s' vl' := by
  obtain ⟨e1, e2, e3⟩ := hO
  dsimp only at e1 e2 e3
  subst e1
  refine ⟨h.1, fun x hx => ?_⟩
  obtain ⟨j, hj, rfl⟩ := List.getElem_of_mem hx
  by_cases hjk : j = k
  · subst hjk; exact hk hj
  · have h1 := e3 j hjk
    rw [List.getElem?_eq_getElem hj, List.getElem?_eq_getElem (by omega)] at h1
    rw [Option.some.inj h1]
    exact h.2 _ (List.getElem_mem _)

theorem rdsE_zero {f : Nat → Int} : ∀ n, (∀ i < n, f i = 0) → rdsE f n = 0
  | 0, _ => rfl
  | n + 1, h => by
    have h1 := rdsE_zero n (fun i hi => h i (by omega))
    simp only [rdsE]
    first
      | (rw [if_pos h1]; exact h n (by omega))
      | (rw [h1]; simp [h n (by omega)])
def SegV (val : Int → List Int) (seg : Int) (p : PartS) (bs : List (List Int)) : Prop := val (16 * seg + 1) = encF p ∧ ∀ i (h : i < bs.length), val (16 * seg + 2 + (i : Int)) = bs[i]
theorem get22 (h : MV g22 gens s vl val) {seg : Int} (hs : 8 ≤ seg ∧ seg ≤ 13) {p : PartS} {bs : List (List Int)} (hw : wholeF p bs = true) (hv : SegV val seg p bs) : getF g22 (s, vl) seg = (p, bs, 0) := by
  obtain ⟨hmay, hlen, hsum⟩ := whole_is hw
  have hm13 := (mayP_is hmay).1
  obtain ⟨v1, v2⟩ := hv
  unfold getF
  rw [vol22 hs, if_pos rfl]
  dsimp only
  obtain ⟨r1, r2, _⟩ := h.read (a := 16 * seg + 1) (by rw [blocks22]; omega)
  have hE : getE g22 (s, vl) (16 * seg + 1) p.l.length = 0 := rdsE_zero _ fun i hi => (h.read (a := 16 * seg + 1 + 1 + (i : Int)) (by rw [blocks22]; omega)).1
  have hB : getBs g22 (s, vl) (16 * seg + 1) p.l.length = bs := by
    unfold getBs
    apply List.ext_getElem
    · simp; omega
    · intro i h1 h2
      simp only [List.getElem_map, List.getElem_range]
      rw [(h.read (a := 16 * seg + 1 + 1 + (i : Int)) (by rw [blocks22]; omega)).2.1, ← v2 i h2]
      congr 1; omega
  rw [if_pos r1, r2, v1, decode_enc hmay hsum]
  unfold getR
  rw [if_pos rfl, if_pos hE, hB, if_pos hw]
theorem decode_zeros : decodeF zeros128 = (zeroP, 5) := by
  unfold decodeF
  rw [held_zeros]; rfl
theorem get22_none (h : MV g22 gens s vl val) {seg : Int} (hs : 8 ≤ seg ∧ seg ≤ 13) (hv : val (16 * seg + 1) = zeros128) : getF g22 (s, vl) seg = (zeroP, [], 3) := by
  unfold getF
  rw [vol22 hs, if_pos rfl]
  dsimp only
  obtain ⟨r1, r2, _⟩ := h.read (a := 16 * seg + 1) (by rw [blocks22]; omega)
  rw [if_pos r1, r2, hv, decode_zeros]
  unfold getR
  rw [if_neg (by simp)]

def putV (val : Int → List Int) (seg : Int) (p : PartS) (bs : List (List Int)) : Int → List Int := putA (putA val (16 * seg + 1) [encF p]) (16 * seg + 2) bs
theorem putV_seg (val : Int → List Int) (seg : Int) (p : PartS) (bs : List (List Int)) : SegV (putV val seg p bs) seg p bs := by
  refine ⟨?_, fun i hi => ?_⟩
  · unfold putV putA
    rw [if_neg (by omega), if_pos (by simp only [List.length_singleton]; omega)]
    simp
  · unfold putV
    rw [putA, if_pos (by omega), show (16 * seg + 2 + (i : Int) - (16 * seg + 2)).toNat = i by omega]
    simp [hi]
theorem putV_other (val : Int → List Int) {seg : Int} {p : PartS} {bs : List (List Int)} (hl : bs.length ≤ 15) {c : Int} (h : c < 16 * seg + 1 ∨ 16 * seg + 16 < c) : putV val seg p bs c = val c := by
  unfold putV putA
  rw [if_neg (by omega), if_neg (by simp; omega)]
theorem SegV.other {seg seg' : Int} {p p' : PartS} {bs bs' : List (List Int)} (h : SegV val seg p bs) (hne : seg ≠ seg') (hl : bs.length ≤ 15) (hl' : bs'.length ≤ 15) : SegV (putV val seg' p' bs') seg p bs := by
  refine ⟨?_, fun i hi => ?_⟩
  · rw [putV_other val hl' (by omega)]; exact h.1
  · rw [putV_other val hl' (by omega)]; exact h.2 i hi
theorem whole_128 {p : PartS} {bs : List (List Int)} (h : wholeF p bs = true) : ∀ b ∈ bs, b.length = 128 := by
  obtain ⟨_, hlen, _⟩ := whole_is h
  intro b hb
  obtain ⟨i, hi, rfl⟩ := List.getElem_of_mem hb
  simp only [wholeF, Bool.and_eq_true, decide_eq_true_eq, List.all_eq_true] at h
  have h4 := h.2 (p.l[i], bs[i]) (by
    rw [← List.getElem_zip (h := by simp; omega)]
    exact List.getElem_mem _)
  simp only [sumOK, decide_eq_true_eq] at h4
  exact h4.1
theorem put22 (h : MV g22 gens s vl val) (hc : Clean s vl) {seg : Int} (hs : 8 ≤ seg ∧ seg ≤ 13) {p : PartS} {bs : List (List Int)} (hw : wholeF p bs = true) :
    ∃ s' vl', putF g22 (s, vl) seg p bs = (0, (s', vl')) ∧ MV g22 gens s' vl' (putV val seg p bs) ∧ Clean s' vl' ∧ vl'.map Prod.fst = vl.map Prod.fst := by
  obtain ⟨hmay, hlen, hsum⟩ := whole_is hw
  have hm13 := (mayP_is hmay).1
  have hlv := h.lv
  obtain ⟨k, hk⟩ := Int.eq_ofNat_of_zero_le (show 0 ≤ (seg - 8) / 3 by omega)
  have hk2 : k < 2 := by omega
  have hg22 : g22.vols = 2 := rfl
  obtain ⟨s1, vl1, e1, M1, O1⟩ := wrAll_mv [encF p] h (a := 16 * seg + 1) (k := k) (by
    intro b hb
    rw [List.mem_singleton.1 hb]; exact encF_len hmay hsum) (by simp only [List.length_singleton]; omega) (fun c c1 c2 => by simp only [List.length_singleton] at c2; omega)
  obtain ⟨s2, vl2, e2, M2, O2⟩ := wrAll_mv bs M1 (a := 16 * seg + 1 + 1) (k := k) (whole_128 hw) (by omega) (fun c c1 c2 => by omega)
  have f1 : vl1.map Prod.fst = vl.map Prod.fst := by have := wrAll_fst g22 [encF p] (s, vl) (16 * seg + 1); rw [e1] at this; exact this
  have f2 : vl2.map Prod.fst = vl1.map Prod.fst := by have := wrAll_fst g22 bs (s1, vl1) (16 * seg + 1 + 1); rw [e2] at this; exact this
  have hl2 : vl2.length = vl.length := O2.2.1.trans O1.2.1
  have hkl : k < vl2.length := by omega
  obtain ⟨q0, M3, qs, ql, _⟩ := M2.flushV hkl
  have hV : putA (putA val (16 * seg + 1) [encF p]) (16 * seg + 1 + 1) bs = putV val seg p bs := by unfold putV; rw [show 16 * seg + 1 + 1 = 16 * seg + 2 by omega]
  rw [hV] at M3
  have hfv : flMV vl2 (k : Int) = setV vl2 k flS := by unfold flMV; rw [if_pos (by omega), Int.toNat_natCast]
  have hget := get22 M3 hs hw (putV_seg val seg p bs)
  refine ⟨flMD s2 k, flMV vl2 k, ?_, M3, ?_, by rw [flMV_fst, f2, f1]⟩
  · unfold putF
    rw [vol22 hs, if_pos rfl, if_pos hw]
    dsimp only
    rw [e1]
    unfold putW
    dsimp only
    rw [if_pos rfl, e2, if_pos rfl]
    unfold putL
    dsimp only
    rw [hk, q0, if_pos rfl]
    unfold putG
    rw [hget]
    dsimp only
    rw [if_neg (by omega), if_neg (by simp)]
  · refine only_clean (k := k) hc ((O1.trans O2).trans ?_) ?_
    · rw [qs, hfv]; exact Only.setV _
    · intro hk'
      simp only [hfv, setV_set hkl]
      rw [List.getElem_set_self]
      rw [(M2.wv _ (List.getElem_mem hkl)).flS]
end
end Go.Proofs.YtjdnflhejfcgdaaDoor

/-
  Vaults: how many segments were used; the law's parts.
-/
namespace Go.Proofs.YtjdnflhejfcgdaaDoor
open Go Go.SL Go.Proofs

theorem blank_seg {s : DevS} {m : Nat} : ∀ {n : Nat}, (∀ k, k < n → rdE s ((k + 1 : Nat) : Int) = 0) → (∀ k, 16 * m ≤ k → k < n → clearF (rdB s ((k + 1 : Nat) : Int)) 0 = true) →
    (m = 0 ∨ ∃ j, 16 * (m - 1) ≤ j ∧ j < n ∧ j < 16 * m ∧ clearF (rdB s ((j + 1 : Nat) : Int)) 0 = false) → blankR s n = ((m : Int), 0)
  | 0, _, _, h => by
    rcases h with rfl | ⟨j, _, h2, _⟩
    · rfl
    · omega
  | n + 1, h1, h2, h3 => by
    simp only [blankR]
    rw [if_pos (h1 n (by omega))]
    by_cases hc : clearF (rdB s ((n + 1 : Nat) : Int)) 0 = true
    · rw [if_pos hc]
      refine blank_seg (fun k hk => h1 k (by omega)) (fun k a b => h2 k a (by omega)) ?_
      rcases h3 with h3 | ⟨j, a, b, c, d⟩
      · exact .inl h3
      · refine .inr ⟨j, a, ?_, c, d⟩
        have : j ≠ n := fun e => by rw [e, hc] at d; exact absurd d (by simp)
        omega
    · rw [if_neg hc]
      have hn : n < 16 * m := by
        apply Nat.lt_of_not_le
        intro hle
        exact hc (h2 n hle (by omega))
      rcases h3 with rfl | ⟨j, a, b, c, d⟩
      · omega
      · refine Prod.ext ?_ rfl
        show (n : Int) / 16 + 1 = m
        omega

theorem enc_dirty {p : PartS} (h : mayP p = true) (hs : sumsOK p) : clearF (encF p) 0 = false := by
  have : (104 : Int) ∈ encF p := by
    unfold encF sealF padF
    rw [packF_enc h hs]
    simp [headB]
  simp only [clearF, Bool.and_eq_false_iff]
  right
  rw [Int.toNat_zero, List.drop_zero, List.all_eq_false]
  exact ⟨104, this, by decide⟩

section
variable {gens : List Int} {s : DevS} {vl : List (Nat × DevS)} {val : Int → List Int}
theorem blank22 (h : MV g22 gens s vl val) {v m : Nat} (hv : v < 2) (hm : m ≤ 3) (h2 : ∀ c, 16 * (8 + 3 * (v : Int) + m) < c → c ≤ 16 * (8 + 3 * (v : Int) + 3) → val c = zeros128)
    (h3 : m = 0 ∨ clearF (val (16 * (8 + 3 * (v : Int) + m - 1) + 1)) 0 = false) : blMR vl (v : Int) = ((m : Int), 0) := by
  have hlv := h.lv
  have hg22 : g22.vols = 2 := rfl
  have hg3 : g22.segs = 3 := rfl
  have hvl : v < vl.length := by omega
  have hmem := List.getElem_mem hvl
  have hn := h.nv _ hmem
  have hw := h.wv _ hmem
  have hb : ∀ k : Nat, k < 48 → rdE vl[v].2 ((k + 1 : Nat) : Int) = 0 ∧ rdB vl[v].2 ((k + 1 : Nat) : Int) = val (16 * (8 + 3 * (v : Int)) + k + 1) := fun k hk => by
    have ht : thereB vl[v].2 ((k + 1 : Nat) : Int) = true := by simp [thereB]; omega
    refine ⟨hw.rdE ht, ?_⟩
    rw [hw.rdB ht, h.atv v hvl _ (by omega) (by rw [hg3]; omega)]
    congr 1
    unfold volBase
    rw [hg3, show g22.disk = 8 from rfl]
    omega
  unfold blMR
  rw [dif_pos ⟨by omega, by omega⟩]
  have h48 : vl[v].2.blocks.length - 1 = 48 := by rw [hg3] at hn; omega
  simp only [Int.toNat_natCast]
  rw [h48]
  refine blank_seg (m := m) (fun k hk => (hb k hk).1) (fun k k1 k2 => ?_) ?_
  · rw [(hb k k2).2, h2 _ (by omega) (by omega)]
    exact clear_zeros
  · rcases h3 with h3 | h3
    · exact .inl h3
    · by_cases hm0 : m = 0
      · exact .inl hm0
      · refine .inr ⟨16 * (m - 1), by omega, by omega, by omega, ?_⟩
        rw [(hb _ (by omega)).2, ← h3]
        congr 2
        omega
/-- so many segments hold these, and nothing is behind them -/
structure Held (val : Int → List Int) (ps : List (PartS × List (List Int))) : Prop where
  le : ps.length ≤ 6
  wh : ∀ x ∈ ps, wholeF x.1 x.2 = true
  at_ : ∀ i (h : i < ps.length), SegV val (8 + (i : Int)) ps[i].1 ps[i].2
  z : ∀ c, 16 * (8 + (ps.length : Int)) < c → c ≤ 224 → val c = zeros128
def told22 (t : Nat) : List Int := [min t 3, t - min t 3, 0, 0, 0, 0, 0, 0]
def nxt22 (t : Nat) : Int × Int := if t < 6 then (8 + (t : Int), 0) else (0, 8)
theorem next22 {t : Nat} (h : t ≤ 6) : nextF g22 2 [0, 0, -1, -1, -1, -1, -1, -1] (told22 t) 2 0 = nxt22 t := by
  have : t = 0 ∨ t = 1 ∨ t = 2 ∨ t = 3 ∨ t = 4 ∨ t = 5 ∨ t = 6 := by omega
  rcases this with rfl | rfl | rfl | rfl | rfl | rfl | rfl <;> decide
theorem used22 (h : MV g22 gens s vl val) {ps : List (PartS × List (List Int))} (hh : Held val ps) (told : List Int) : usedF g22 vl told = told22 ps.length := by
  have hle := hh.le
  have hd : ∀ i (hi : i < ps.length), clearF (val (16 * (8 + (i : Int)) + 1)) 0 = false := fun i hi => by
    obtain ⟨hmay, _, hsum⟩ := whole_is (hh.wh _ (List.getElem_mem hi))
    rw [(hh.at_ i hi).1]
    exact enc_dirty hmay hsum
  have b0 := blank22 h (v := 0) (m := min ps.length 3) (by omega) (by omega) (fun c c1 c2 => by
    have : ps.length ≤ 3 ∨ 3 < ps.length := by omega
    rcases this with h3 | h3
    · exact hh.z c (by rw [Nat.min_eq_left h3] at c1; omega) (by omega)
    · rw [Nat.min_eq_right (by omega)] at c1; omega) (by
    by_cases h0 : min ps.length 3 = 0
    · exact .inl h0
    · right
      rw [← hd (min ps.length 3 - 1) (by omega)]
      congr 2
      omega)
  have b1 := blank22 h (v := 1) (m := ps.length - min ps.length 3) (by omega) (by omega) (fun c c1 c2 => hh.z c (by omega) (by omega)) (by
    by_cases h0 : ps.length - min ps.length 3 = 0
    · exact .inl h0
    · right
      rw [← hd (ps.length - 1) (by omega)]
      congr 2
      omega)
  have hg22 : g22.vols.toNat = 2 := rfl
  unfold usedF
  rw [hg22]
  unfold usedTo
  rw [show List.range 2 = [0, 1] from rfl]
  simp only [List.map_cons, List.map_nil]
  have u0 : usedAt g22 vl told 0 = ((min ps.length 3 : Nat) : Int) := by unfold usedAt; rw [b0, if_pos rfl]
  have u1 : usedAt g22 vl told 1 = ((ps.length - min ps.length 3 : Nat) : Int) := by unfold usedAt; rw [b1, if_pos rfl]
  rw [u0, u1]
  unfold told22
  rw [show ((ps.length - min ps.length 3 : Nat) : Int) = (ps.length : Int) - ((min ps.length 3 : Nat) : Int) by omega]
  simp
  omega
theorem held_put {ps : List (PartS × List (List Int))} (hh : Held val ps) (hlt : ps.length < 6) {p : PartS} {bs : List (List Int)} (hw : wholeF p bs = true) : Held (putV val (8 + (ps.length : Int)) p bs) (ps ++ [(p, bs)]) := by
  obtain ⟨hmay, hlen, hsum⟩ := whole_is hw
  have hm13 := (mayP_is hmay).1
  refine ⟨by simp; omega, ?_, ?_, ?_⟩
  · intro x hx
    rcases List.mem_append.1 hx with hx | hx
    · exact hh.wh x hx
    · rw [List.mem_singleton.1 hx]; exact hw
  · intro i hi
    by_cases h1 : i < ps.length
    · rw [List.getElem_append_left h1]
      obtain ⟨hmay', hlen', hsum'⟩ := whole_is (hh.wh _ (List.getElem_mem h1))
      have hm13' := (mayP_is hmay').1
      exact (hh.at_ i h1).other (by omega) (by omega) (by omega)
    · have : i = ps.length := by simp at hi; omega
      subst this
      rw [List.getElem_append_right (by omega)]
      simp only [Nat.sub_self, List.getElem_singleton]
      exact putV_seg _ _ _ _
  · intro c c1 c2
    simp only [List.length_append, List.length_singleton] at c1
    rw [putV_other val (by omega) (by omega)]
    exact hh.z c (by omega) c2
end

theorem part22_may {seq : Int} {l : List Int} (hs : 1 ≤ seq ∧ seq ≤ 100) (h0 : 0 < l.length) (hb : ∀ z ∈ l, 0 ≤ z ∧ z ≤ 255) : wholeF (part22 seq l) (blks22 (l.take 13)) = true ∧ part22 seq l ≠ zeroP := by
  have hb' : ∀ z ∈ l.take 13, 0 ≤ z ∧ z ≤ 255 := fun z hz => hb z (List.mem_of_mem_take hz)
  have hl : 1 ≤ (l.take 13).length ∧ (l.take 13).length ≤ 13 := by rw [List.length_take]; omega
  have hpe : part22 seq l = mayOr (partR seq 0 true (ents22 (l.take 13)) (blks22 (l.take 13))) := rfl
  generalize l.take 13 = q at *
  have hlen : (ofL (ents22 q) (blks22 q)).length = q.length := by simp [ofL, ents22, blks22]
  have hmay : mayP (partR seq 0 true (ents22 q) (blks22 q)) = true := by
    refine mayP_of ⟨hs.1, by show seq ≤ _; omega, by show (0 : Int) ≤ 0; omega, by show (0 : Int) ≤ _; omega, by show 1 ≤ (ofL _ _).length; omega, by show (ofL _ _).length ≤ 13; omega⟩ ?_
    intro e he
    obtain ⟨i, hi, rfl⟩ := List.getElem_of_mem (show e ∈ ofL (ents22 q) (blks22 q) from he)
    have hiq : i < q.length := by omega
    have hz := hb' _ (List.getElem_mem hiq)
    simp [ofL, ents22, ofE, ent22, entMay]
    omega
  have hp : part22 seq l = partR seq 0 true (ents22 q) (blks22 q) := by rw [hpe]; exact if_pos hmay
  rw [hp]
  refine ⟨wholeF_yes hmay ?_ ?_, ?_⟩
  · show (blks22 q).length = (ofL _ _).length
    rw [hlen]; simp [blks22]
  · intro x hx
    obtain ⟨i, hi, rfl⟩ := List.getElem_of_mem hx
    have hiq : i < q.length := by
      simp [blks22] at hi; omega
    have hz := hb' _ (List.getElem_mem hiq)
    rw [List.getElem_zip]
    have hbk : (blks22 q)[i]'(by simp [blks22, hiq]) = allB q[i] := by simp [blks22]
    have hek : (partR seq 0 true (ents22 q) (blks22 q)).l[i]'(by show i < (ofL _ _).length; omega) = ofE (ent22 i q[i]) (allB q[i]) := by simp [partR, ofL, ents22, blks22]
    rw [hbk, hek]
    unfold sumOK
    exact decide_eq_true ⟨allB_len _, (refSum_crc (allB_by hz)).symm⟩
  · intro e
    have := congrArg PartS.seq e
    have h0 : seq = 0 := this
    omega
end Go.Proofs.YtjdnflhejfcgdaaDoor

/-
  The law of vaults: a medium in the view of its addresses.
-/
namespace Go.Proofs.YtjdnflhejfcgdaaDoor
open Go Go.SL Go.Proofs

def gens22 : List Int := [0, 0, -1, -1, -1, -1, -1, -1]
structure VOK (a b : Nat) (val : Int → List Int) (s : DV) : Prop where
  mv : MV g22 gens22 s.1 s.2 val
  cl : Clean s.1 s.2
  vs : s.2.map Prod.fst = [a, b]
/-- a medium at m, on the disk d and the volumes a and b, of which each address has what val says, and nothing waits -/
def vp (m d a b : Nat) (val : Int → List Int) : HP := ex fun s : DV => st [medP m d [a, b] g22 gens22, devP d s.1, devsP s.2, fact (VOK a b val s)]
attribute [irreducible] vp
theorem vp_close {m d a b : Nat} {val : Int → List Int} {s : DV} {F : List HP} (h : VOK a b val s) : Ent (medP m d [a, b] g22 gens22 :: devP d s.1 :: devsP s.2 :: F) (vp m d a b val :: F) := by
  refine (Ent.fact_intro h).trans ?_
  unfold vp
  refine Ent.trans ?_ (Ent.ex_intro s)
  refine Ent.trans ?_ Ent.shut_st
  simp only [List.cons_append, List.nil_append]
  (repeat (first | exact Ent.refl _ | exact Ent.nil | (apply Ent.pick; focus ((repeat (first | exact Rem.here | apply Rem.there)); done)) | apply Ent.drop))
theorem vp_own {m d a b : Nat} {val : Int → List Int} {F : List HP} {h : Hp} (H : Own (vp m d a b val :: F) h) : ∃ s, VOK a b val s ∧ Own (medP m d [a, b] g22 gens22 :: devP d s.1 :: devsP s.2 :: F) h := by
  unfold vp at H
  obtain ⟨s, H⟩ := own_ex H
  replace H := own_st H
  simp only [List.cons_append, List.nil_append] at H
  have hOK : VOK a b val s := own_fact (Ent.own (show Ent _ [fact (VOK a b val s)] from by (repeat (first | exact Ent.refl _ | exact Ent.nil | (apply Ent.pick; focus ((repeat (first | exact Rem.here | apply Rem.there)); done)) | apply Ent.drop))) H)
  exact ⟨s, hOK, Ent.own (by (repeat (first | exact Ent.refl _ | exact Ent.nil | (apply Ent.pick; focus ((repeat (first | exact Rem.here | apply Rem.there)); done)) | apply Ent.drop))) H⟩
section
variable {P : Program} {f : FuncId} {args : Array Value} {L : List HP} {R : Value → List HP → Prop}
theorem Tr.open_vp {m d a b : Nat} {val : Int → List Int} (h : ∀ s, VOK a b val s → Tr P f args (medP m d [a, b] g22 gens22 :: devP d s.1 :: devsP s.2 :: L) R) : Tr P f args (vp m d a b val :: L) R := .mk fun w0 w hs => by
  obtain ⟨s, h2, H⟩ := vp_own hs.own
  exact (h s h2).h w0 w ⟨hs.os, hs.tape, hs.output, hs.size, hs.drawn, H⟩
variable {w0 : World} {nt : Cx} {env : Env} {Q : Exit → Act → World → Prop}
theorem sw_open_vp {m d a b : Nat} {val : Int → List Int} {c : Code} (h : ∀ s, VOK a b val s → SW P w0 nt (medP m d [a, b] g22 gens22 :: devP d s.1 :: devsP s.2 :: L) env c Q) : SW P w0 nt (vp m d a b val :: L) env c Q := .mk fun w e hs hr => by
  obtain ⟨s, h2, H⟩ := vp_own hs.own
  exact (h s h2).h w e ⟨hs.os, hs.tape, hs.output, hs.size, hs.drawn, H⟩ hr
end

theorem vp_Next (m d a b : Nat) (val : Int → List Int) (t : Nat) (ht : t ≤ 6) {F : List HP} : Tr Tryd.prog 16 [.pointer (some ⟨m, 0, none⟩), .agg (arr8 (told22 t))].toArray (vp m d a b val :: F)
    (fun v L' => v = .tuple #[.int .i64 (nxt22 t).1, .int .i64 (nxt22 t).2] ∧ L' = vp m d a b val :: F) := by
  refine Tr.open_vp fun s hs => ?_
  refine Tr.weaken (vault_Next m d g22 (by decide) gens22 [a, b] (told22 t) rfl (F := devP d s.1 :: devsP s.2 :: F)) ?_
  rintro v L' ⟨rfl, rfl⟩
  have := next22 ht
  exact ⟨_, vp_close hs, by rw [← this]; rfl, rfl⟩
theorem vp_Used (m d a b : Nat) (val : Int → List Int) {ps : List (PartS × List (List Int))} (hh : Held val ps) (told : List Int) (h8 : told.length = 8) {F : List HP} : Tr Tryd.prog 17 [.pointer (some ⟨m, 0, none⟩), .agg (arr8 told)].toArray (vp m d a b val :: F)
    (fun v L' => v = .agg (arr8 (told22 ps.length)) ∧ L' = vp m d a b val :: F) := by
  refine Tr.open_vp fun s hs => ?_
  have hu := used22 hs.mv hh told
  have hbl : ∀ v, (blMR s.2 v).1 ≤ 1000000000 := fun v => by
    have hz : ∀ (x : DevS) (n : Nat), n ≤ 100000 → (blankR x n).1 ≤ 1000000000 := fun x n => by
      induction n with
      | zero => intro _; simp [blankR]
      | succ k ih =>
        intro hk
        simp only [blankR]
        split
        · split
          · exact ih (by omega)
          · dsimp only; omega
        · simp
    unfold blMR
    split
    · rename_i h
      have := hs.mv.okv _ (List.getElem_mem (show v.toNat < s.2.length by omega))
      have hb := this.bn
      exact hz _ _ (by omega)
    · simp
  have hr := vault_Used m d g22 (by decide) gens22 s.2 told h8 (fun x hx => ⟨(hs.mv.okv x hx).bn, by have := hs.mv.nv x hx; have h3 : g22.segs = 3 := rfl; omega⟩) hbl (F := devP d s.1 :: F)
  rw [hs.vs, hu] at hr
  refine Tr.ent ?_ (Tr.weaken hr ?_)
  · (repeat (first | exact Ent.refl _ | exact Ent.nil | (apply Ent.pick; focus ((repeat (first | exact Rem.here | apply Rem.there)); done)) | apply Ent.drop))
  · rintro v L' ⟨rfl, rfl⟩
    refine ⟨_, Ent.trans ?_ (vp_close hs), rfl, rfl⟩
    (repeat (first | exact Ent.refl _ | exact Ent.nil | (apply Ent.pick; focus ((repeat (first | exact Rem.here | apply Rem.there)); done)) | apply Ent.drop))
theorem vp_Put (m d a b : Nat) (val : Int → List Int) {seg : Int} (hseg : 8 ≤ seg ∧ seg ≤ 13) (p : PartS) (bs : List BS) (hw : wholeF p (bs.map BS.l) = true) {pp bp : Option Addr} {n c nb cb : Nat} {F : List HP} [HalvesC F]
    (hl : SlC F pp 4 n c (p.l.map EntS.cells)) (hb : SlC F bp 1 nb cb (bs.map BS.cell)) (hx : ∀ x ∈ bs, SlC F x.p 1 x.n x.c (x.l.map u8c)) :
    Tr Tryd.prog 9 [.pointer (some ⟨m, 0, none⟩), .int .i64 seg, .agg (p.cells (.slice pp n c)), .slice bp nb cb].toArray (vp m d a b val :: F)
      (fun v L' => v = .int .i64 0 ∧ L' = vp m d a b (putV val seg p (bs.map BS.l)) :: F) := by
  refine Tr.open_vp fun s hs => ?_
  obtain ⟨s', vl', e, hM, hC, hF⟩ := put22 hs.mv hs.cl hseg hw
  obtain ⟨hmay, hlen, _⟩ := whole_is hw
  have h13 := (mayP_is hmay).1
  rw [List.length_map] at hlen
  have hP := vault_Put m d g22 gens22 [a, b] s seg p bs 0 hs.vs hs.cl.pb (by omega) hl hb hx
  rw [e] at hP
  refine Tr.weaken hP ?_
  rintro v L' ⟨rfl, rfl⟩
  exact ⟨_, vp_close (s := (s', vl')) ⟨hM, hC, hF.trans hs.vs⟩, rfl, rfl⟩
theorem vp_Get (m d a b : Nat) (val : Int → List Int) {seg : Int} (hseg : 8 ≤ seg ∧ seg ≤ 13) {p : PartS} {bl : List (List Int)} (hw : wholeF p bl = true) (hv : SegV val seg p bl) {F : List HP} [HalvesC F] :
    Tr Tryd.prog 10 [.pointer (some ⟨m, 0, none⟩), .int .i64 seg].toArray (vp m d a b val :: F)
      (fun v L' => ∃ sv bv bs, v = .tuple #[.agg (p.cells sv), bv, .int .i64 0] ∧ (∀ x ∈ bs, BSok x) ∧ bs.map BS.l = bl ∧ L' = vec 72 4 (p.l.map EntS.cells) sv :: vec 22 1 (bs.map BS.cell) bv :: blksP 147 bs :: vp m d a b val :: F) := by
  refine Tr.open_vp fun s hs => ?_
  have hG := vault_Get m d g22 gens22 [a, b] s seg hs.vs (F := F)
  rw [show getF g22 s seg = (p, bl, 0) from get22 hs.mv hseg hw hv] at hG
  refine Tr.weaken hG ?_
  rintro v L' ⟨sv, bv, bs, rfl, hok, hbl, rfl⟩
  exact ⟨_, Ent.cons (Ent.cons (Ent.cons (vp_close hs))), sv, bv, bs, rfl, hok, hbl, rfl⟩
theorem vp_Get_none (m d a b : Nat) (val : Int → List Int) {seg : Int} (hseg : 8 ≤ seg ∧ seg ≤ 13) (hv : val (16 * seg + 1) = zeros128) {F : List HP} [HalvesC F] :
    Tr Tryd.prog 10 [.pointer (some ⟨m, 0, none⟩), .int .i64 seg].toArray (vp m d a b val :: F)
      (fun v L' => ∃ sv bv, v = .tuple #[.agg (zeroP.cells sv), bv, .int .i64 3] ∧ L' = vec 72 4 [] sv :: vp m d a b val :: F) := by
  refine Tr.open_vp fun s hs => ?_
  have hG := vault_Get m d g22 gens22 [a, b] s seg hs.vs (F := F)
  rw [show getF g22 s seg = (zeroP, [], 3) from get22_none hs.mv hseg hv] at hG
  refine Tr.weaken hG ?_
  rintro v L' ⟨sv, bv, bs, rfl, hok, hbl, rfl⟩
  exact ⟨_, Ent.trans (Ent.cons (Ent.drop (Ent.drop (Ent.refl _)))) (Ent.cons (vp_close hs)), sv, bv, rfl, rfl⟩

theorem made_view (a b : Nat) : VOK a b (fun _ => zeros128) (disk22, vols22 a b) := by
  obtain ⟨_, _, _, hM, h1, h2⟩ := MV.format (g := g22) (by decide) (N := 144) (M := 49) (by decide) (by decide) (vl := [(a, newDev 49), (b, newDev 49)]) rfl
  have hlen : [(a, newDev 49), (b, newDev 49)].length = 2 := rfl
  rw [hlen] at hM h2
  have hg : List.replicate 2 (0 : Int) ++ List.replicate (8 - 2) (-1) = gens22 := rfl
  rw [hg] at hM
  refine ⟨?_, ⟨?_, ?_⟩, ?_⟩
  · have e1 : disk22 = ewfS (newDev 144) (superF g22) := by unfold disk22; rfl
    have e2 : vols22 a b = fmV [(a, newDev 49), (b, newDev 49)] 2 := by unfold vols22; rfl
    show MV g22 gens22 disk22 (vols22 a b) (fun _ => zeros128)
    rw [e1, e2]
    exact hM
  · show disk22.pend = []
    unfold disk22
    exact h1
  · show ∀ x ∈ vols22 a b, x.2.pend = []
    have hl : (fmV [(a, newDev 49), (b, newDev 49)] 2).length = 2 := fmV_len _ _
    unfold vols22
    refine cleanV_all ?_
    rw [hl]
    exact h2
  · show (vols22 a b).map Prod.fst = [a, b]
    unfold vols22
    exact fmV_fst _ _
theorem vp_made {L : List HP} [HalvesC L] : Tr Tryd.prog 6 [].toArray L (fun v L' => ∃ m d a b p r q, v = .tuple #[.pointer (some ⟨m, 0, none⟩), .pointer (some ⟨r, 0, none⟩), .slice p 2 2, .slice q 2 2] ∧
    L' = vp m d a b (fun _ => zeros128) :: vec 58 1 ([a, b].map ptrc) (.slice p 2 2) :: L) := by
  refine Tr.weaken law22_made ?_
  rintro v L' ⟨m, d, a, b, p, r, rd, x, y, q, rfl, rfl⟩
  refine ⟨_, Ent.trans ?_ (vp_close (s := (disk22, vols22 a b)) (made_view a b)), m, d, a, b, p, r, q, rfl, rfl⟩
  unfold gens22
  (repeat (first | exact Ent.refl _ | exact Ent.nil | (apply Ent.pick; focus ((repeat (first | exact Rem.here | apply Rem.there)); done)) | apply Ent.drop))
theorem held_none : Held (fun _ => zeros128) [] := ⟨by simp, by simp, fun i h => absurd h (by simp), fun _ _ _ => rfl⟩
end Go.Proofs.YtjdnflhejfcgdaaDoor

/-
  The law of vaults: the chapter's examples.
-/
namespace Go.SL
open Go
section
variable {P : Program} {w0 : World} {nt : Cx} {L : List HP} {env : Env} {ty : TypeId}
theorem R_build0 {t e : TypeId} {n k : Nat} {cs : Array Value} [hu : Und P t (.array n e)] [hz : SizeC P e k] [hzz : ZeroC P t (.agg cs)] : OpR P w0 nt L env (.build t #[]) ty (.agg cs) := .mk fun o ho _ a hr w _ => by
  simp [execOp, ho, Instr.build, Sem.run_bind, run_underlying hu.h, hzz.h, hz.h, Instr.fill, Value.cells]
end
end Go.SL
namespace Go.Proofs.YtjdnflhejfcgdaaDoor
open Go Go.SL Go.Proofs

theorem blks_read {e : TypeId} {bs : List BS} {L L' : List HP} (h : RemC (blksP e bs) L L') (hok : ∀ x ∈ bs, BSok x) : ∀ x ∈ bs, SlC L x.p 1 x.n x.c (x.l.map u8c) := fun x hx => (SlC.ofBlks hx (hok x hx)).ent (Ent.pick h.h (Ent.refl _))
theorem one_blk {bs : List BS} {b : List Int} (h : bs.map BS.l = [b]) : ∃ x, bs = [x] ∧ x.l = b := by
  match bs, h with
  | [x], h => exact ⟨x, rfl, by simpa using h⟩
theorem told0 : arr8 (told22 0) = #[.int .i64 0, .int .i64 0, .int .i64 0, .int .i64 0, .int .i64 0, .int .i64 0, .int .i64 0, .int .i64 0] := rfl
theorem told1 : arr8 (told22 1) = #[.int .i64 1, .int .i64 0, .int .i64 0, .int .i64 0, .int .i64 0, .int .i64 0, .int .i64 0, .int .i64 0] := rfl
def p7 : PartS := part22 1 [7]
theorem p7_whole : wholeF p7 [allB 7] = true := (part22_may (seq := 1) (l := [7]) (by omega) (by simp) (by simp)).1

set_option maxHeartbeats 4000000 in
theorem law22_awake {L : List HP} [HalvesC L] : Tr Tryd.prog 7 [].toArray L (fun v L' => v = .bool true ∧ L = L') := by
  refine tr_enter Tryd.func7 rfl Tryd.ntmps7 rfl fun w0 => ?_
  have cN := fun (m d a b : Nat) (val : Int → List Int) (F : List HP) => vp_Next m d a b val 0 (by omega) (F := F)
  rw [told0] at cN
  simp only [show nxt22 0 = (8, 0) from rfl] at cN
  repeat' (first
    | refine swl_op ?_
    | (refine s1_move ?_; refine sc_r (R_move (by rfl)) (by rfl) ?_)
    | (refine s1_assign ?_; refine sc_r (R_assign (by rfl)) (by rfl) ?_)
    | (refine s1_bin ?_; refine sc_r (R_eql_nil (by rfl) (by rfl)) (by rfl) ?_)
    | (refine s1_call ?_; first | (refine sc_c (by rfl) (C_call (by rfl) (by infer_instance) (by rfl) (by rfl) (vp_made)) (by rfl) ?_; rintro _ _ ⟨m, d, a, b, p, r, q, rfl, rfl⟩) | (refine sc_c (by rfl) (C_call (by rfl) (by infer_instance) (by rfl) (by rfl) (cN m d a b _ _)) (by rfl) ?_; rintro _ _ ⟨rfl, rfl⟩))
    | (refine s1_any ?_; first | (refine sc_w (by rfl) (W_buildSliceV (by rfl) (by rfl) (by rfl) (by rfl) (by rfl) (by rfl) (by rfl)) (by rfl) ?_; rintro _ _ ⟨_, rfl, rfl, _, _⟩) | refine sc_r (R_extract (by rfl) (by rfl)) (by rfl) ?_ | refine sc_r R_build0 (by rfl) ?_)
    | refine swl_nil ?_
    | refine sx_next ?_
    | refine sw_seq ?_
    | refine sw_region ?_
    | refine sw_cond_false (by rfl) ?_
    | refine sw_skip ?_
    | fail)
  have hpt := fun (L : List HP) (p : Option Addr) (n c : Nat) (hl : SlC L p 1 n c ([7].map u8c)) => law22_part 1 [7] (by simp) (L := L) hl
  rw [show blks22 ([7].take 13) = [allB 7] from rfl] at hpt
  simp only [PartS.cells] at hpt
  have hw := p7_whole
  have hp7 : part22 1 [7] = p7 := rfl
  rw [hp7] at hpt
  generalize p7 = P at *
  repeat' (first
    | refine swl_op ?_
    | (refine s1_move ?_; refine sc_r (R_move (by rfl)) (by rfl) ?_)
    | (refine s1_load ?_; refine sc_r (L_load_all (by rfl) (by infer_instance) (by rfl)) (by rfl) ?_)
    | (refine s1_assign ?_; refine sc_r (R_assign (by rfl)) (by rfl) ?_)
    | (refine s1_call ?_; (refine sc_c (by rfl) (C_call (by rfl) (by infer_instance) (by rfl) (by rfl) (hpt _ _ _ _ (by exact SlC.ofVec (els := [7].map u8c) (hn := by infer_instance) (hl := ⟨rfl⟩)))) (by rfl) ?_; rintro _ _ ⟨sP, sB, sS, bs, rfl, hok, hbs, rfl⟩; obtain ⟨x, rfl, hxl⟩ := one_blk hbs; refine swl_know (fun h H => vec_fact H) ?_; rintro ⟨pP, cP, rfl, hvP⟩; refine swl_know (fun h H => vec_fact (Ent.own (show Ent _ [vec 22 1 ([x].map BS.cell) sB] from by (repeat (first | exact Ent.refl _ | exact Ent.nil | (apply Ent.pick; focus ((repeat (first | exact Rem.here | apply Rem.there)); done)) | apply Ent.drop))) H)) ?_; rintro ⟨pB, cB, rfl, hvB⟩; obtain ⟨bB, oB, rfl⟩ := hvB.ptr (by simp)))
    | (refine s1_store ?_; (refine sc_w (by rfl) (W_storeAll (by rfl) (by rfl) (by infer_instance) (by rfl) (by rfl) (by rfl)) (by rfl) ?_; rintro _ _ ⟨rfl, rfl⟩))
    | (refine s1_alloc ?_; (refine sc_w (by rfl) W_allocA (by rfl) ?_; rintro _ _ ⟨_, rfl, rfl⟩))
    | (refine s1_any ?_; refine sc_r (R_extract (by rfl) (by rfl)) (by rfl) ?_)
    | refine swl_nil ?_
    | refine sx_next ?_
    | refine sw_seq ?_
    | refine sw_region ?_
    | fail)
  have hput := fun (F : List HP) (hg : HalvesC F) (hl : SlC F pP 4 (P.l.map EntS.cells).length cP (P.l.map EntS.cells)) (hb : SlC F (some ⟨bB, oB, none⟩) 1 ([x].map BS.cell).length cB ([x].map BS.cell)) (hx : ∀ y ∈ [x], SlC F y.p 1 y.n y.c (y.l.map u8c)) =>
    vp_Put m d a b (fun _ => zeros128) (seg := 8) (by omega) P [x] (by rw [hbs]; exact hw) (F := F) hl hb hx
  rw [hbs] at hput
  have hsv := putV_seg (fun _ => zeros128) 8 P [allB 7]
  have hz9 : putV (fun _ => zeros128) 8 P [allB 7] (16 * 9 + 1) = zeros128 := putV_other _ (by simp) (by omega)
  have hh : Held (putV (fun _ => zeros128) 8 P [allB 7]) [(P, [allB 7])] := held_put held_none (by simp) hw
  generalize putV (fun _ => zeros128) 8 P [allB 7] = val1 at *
  have hget := fun (F : List HP) (hg : HalvesC F) => vp_Get m d a b val1 (seg := 8) (by omega) hw hsv (F := F)
  have hget9 := fun (F : List HP) (hg : HalvesC F) => vp_Get_none m d a b val1 (seg := 9) (by omega) hz9 (F := F)
  have hused := fun (F : List HP) => vp_Used m d a b val1 hh (told22 0) rfl (F := F)
  rw [told0, show [(P, [allB 7])].length = 1 from rfl, told1] at hused
  simp only [PartS.cells] at hput hget hget9
  have hsame := fun (L : List HP) (pa pb : Option Addr) (n ca m cb : Nat) (ha : SlC L pa 4 n ca (P.l.map EntS.cells)) (hb : SlC L pb 4 m cb (P.l.map EntS.cells)) => ref6_Same P P ha hb
  rw [decide_eq_true rfl] at hsame
  simp only [PartS.cells] at hsame
  repeat' (first
    | (refine s1_bin ?_; refine sc_r (R_eql_str1 (by rfl) (by rfl) (by rw [hyl, hxl])) (by rfl) ?_)
    | (refine s1_indexAddr ?_; refine sc_r (R_indexAddr (n := 1) (by rfl) (by rfl) (by simp)) (by rfl) ?_)
    | (refine s1_load ?_; refine sc_r (L_load_el1 (i := Int.toNat 0) (by rfl) (by infer_instance) (by simp) (by rfl)) (by rfl) ?_)
    | refine swl_op ?_
    | (refine s1_move ?_; refine sc_r (R_move (by rfl)) (by rfl) ?_)
    | (refine s1_load ?_; first | refine sc_r (L_load' (by rfl) (by infer_instance) (by rfl)) (by rfl) ?_ | refine sc_r (L_load_all (by rfl) (by infer_instance) (by rfl)) (by rfl) ?_)
    | (refine s1_assign ?_; refine sc_r (R_assign (by rfl)) (by rfl) ?_)
    | (refine s1_pick ?_; refine sc_r (R_pick_t (by rfl) (by rfl)) (by rfl) ?_)
    | (refine s1_bin ?_; first | refine sc_r (R_add64 (by rfl) (by rfl) (by omega)) (by rfl) ?_ | refine sc_r (R_eql (by rfl) (by rfl)) (by rfl) ?_)
    | (refine s1_call ?_; first | (refine sc_c (by rfl) (C_call (by rfl) (by infer_instance) (by rfl) (by rfl) (Tr.ent (Ent.pick (by focus ((repeat (first | exact Rem.here | apply Rem.there)); done)) (Ent.refl _)) (hput _ (by infer_instance) (by infer_instance) (by infer_instance) (blks_read (e := 5) (by infer_instance) hok)))) (by rfl) ?_; rintro _ _ ⟨rfl, rfl⟩) | (refine sc_c (by rfl) (C_call (by rfl) (by infer_instance) (by rfl) (by rfl) (Tr.ent (Ent.pick (by focus ((repeat (first | exact Rem.here | apply Rem.there)); done)) (Ent.refl _)) (hget _ (by infer_instance)))) (by rfl) ?_; rintro _ _ ⟨sv, bv, bs2, rfl, hok2, hbs2, rfl⟩; obtain ⟨y, rfl, hyl⟩ := one_blk hbs2; refine swl_know (fun h H => vec_fact H) ?_; rintro ⟨pQ, cQ, rfl, hvQ⟩; refine swl_know (fun h H => vec_fact (Ent.own (show Ent _ [vec 22 1 ([y].map BS.cell) bv] from by (repeat (first | exact Ent.refl _ | exact Ent.nil | (apply Ent.pick; focus ((repeat (first | exact Rem.here | apply Rem.there)); done)) | apply Ent.drop))) H)) ?_; rintro ⟨pC, cC, rfl, hvC⟩; obtain ⟨bC, oC, rfl⟩ := hvC.ptr (by simp)) | (refine sc_c (by rfl) (C_call (by rfl) (by infer_instance) (by rfl) (by rfl) (Tr.ent (Ent.pick (by focus ((repeat (first | exact Rem.here | apply Rem.there)); done)) (Ent.refl _)) (hused _))) (by rfl) ?_; rintro _ _ ⟨rfl, rfl⟩) | (refine sc_c (by rfl) (C_call (by rfl) (by infer_instance) (by rfl) (by rfl) (Tr.ent (Ent.pick (by focus ((repeat (first | exact Rem.here | apply Rem.there)); done)) (Ent.refl _)) (hget9 _ (by infer_instance)))) (by rfl) ?_; rintro _ _ ⟨sv3, bv3, rfl, rfl⟩; refine swl_know (fun h H => vec_fact H) ?_; rintro ⟨pZ, cZ, rfl, hvZ⟩) | (refine sc_c (by rfl) (C_call (by rfl) (by infer_instance) (by rfl) (by rfl) (hsame _ _ _ _ _ _ _ (by infer_instance) (by infer_instance))) (by rfl) ?_; rintro _ _ ⟨rfl, rfl⟩) | refine sc_r (R_len (by rfl)) (by rfl) ?_)
    | (refine s1_indexAddr ?_; refine sc_r (R_indexAddr_arr (by rfl) (by rfl) (by omega)) (by rfl) ?_)
    | (refine s1_store ?_; (refine sc_w (by rfl) (W_storeAll (by rfl) (by rfl) (by infer_instance) (by rfl) (by rfl) (by rfl)) (by rfl) ?_; rintro _ _ ⟨rfl, rfl⟩))
    | (refine s1_alloc ?_; (refine sc_w (by rfl) W_allocA (by rfl) ?_; rintro _ _ ⟨_, rfl, rfl⟩))
    | (refine s1_conv ?_; first | refine sc_r (R_bytes_string (l := y.l) (by rfl) (blks_read (e := 147) (by infer_instance) hok2 y (by simp))) (by rfl) ?_ | refine sc_r (R_bytes_string (l := x.l) (by rfl) (blks_read (e := 5) (by infer_instance) hok x (by simp))) (by rfl) ?_)
    | (refine s1_any ?_; first | refine sc_r (R_extract (by rfl) (by rfl)) (by rfl) ?_ | refine sc_r R_build0 (by rfl) ?_)
    | refine swl_nil ?_
    | refine sx_next ?_
    | refine sw_seq ?_
    | refine sw_region ?_
    | refine sw_ret ?_
    | refine swh_lt (by rfl) (fun _ _ => wanted_none) ?_
    | refine swh_lt (by rfl) (wanted_on (by rfl) (by rfl)) ?_
    | refine swh_hv (by rfl) (wanted_on (by rfl) (by rfl)) ?_
    | refine swh_nil ?_
    | (apply And.intro; focus ((repeat (first | exact Ent.refl _ | exact Ent.nil | (apply Ent.pick; focus ((repeat (first | exact Rem.here | apply Rem.there)); done)) | apply Ent.drop)); done))
    | (refine sw_draw [(0, true), (1, true), (2, true), (3, true), (4, true), (5, true), (6, true), (7, true), (8, true), (9, true), (10, true), (11, true), (12, true), (13, false), (14, true), (15, true), (16, true), (17, true), (18, true), (19, true), (20, true), (21, true), (22, true), (23, true), (24, true), (25, true), (26, true), (27, true), (28, true), (29, true), (30, true), (31, true), (32, true), (33, true), (34, true), (35, true), (36, true), (37, true), (38, true), (39, true), (40, true), (41, true), (42, true), (43, true), (44, true), (45, true), (46, true), (47, true), (48, true), (49, true)] follows ?_ ?_ ?_; (focus rfl); (focus (decide +kernel)))
    | fail)
  exact sx_ret_of (res1 rfl (ResOne.tmp rfl)) _ ⟨rfl, rfl⟩ (by (repeat (first | exact Ent.refl _ | exact Ent.nil | (apply Ent.pick; focus ((repeat (first | exact Rem.here | apply Rem.there)); done)) | apply Ent.drop)))
end Go.Proofs.YtjdnflhejfcgdaaDoor
