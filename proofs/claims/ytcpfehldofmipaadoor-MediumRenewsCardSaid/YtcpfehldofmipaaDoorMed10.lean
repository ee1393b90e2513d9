/-
  Media: renewed; the geometry.
-/
import Derived.Test.YtcpfehldofmipaaDoorMed9
namespace Go.Proofs.YtcpfehldofmipaaDoor
open Go Go.SL Go.Proofs

theorem medium_Geo (m d : Nat) (vs : List Nat) (g : Geo) (gens : List Int) {F : List HP} : Tr Tryd.prog 61 [.pointer (some ⟨m, 0, none⟩)].toArray (medP m d vs g gens :: F) (fun v L' => v = .agg g.cells ∧ L' = medP m d vs g gens :: F) := by
  refine Tr.open_med fun pv cv h1 h2 => ?_
  refine tr_enter Tryd.func61 rfl Tryd.ntmps61 rfl fun w0 => ?_
  repeat' (first
    | (refine s1_load ?_; refine sc_r (L_load_part (by rfl) (by infer_instance) (by rfl) (by rfl)) (by rfl) ?_)
    | refine swl_op ?_
    | (refine s1_move ?_; refine sc_r (R_move (by rfl)) (by rfl) ?_)
    | (refine s1_fieldAddr ?_; refine sc_r (R_fieldAddr (by rfl)) (by rfl) ?_)
    | (refine s1_store ?_; (refine sc_w (by rfl) (W_storeAll (by rfl) (by rfl) (by infer_instance) (by rfl) (by rfl) (by rfl)) (by rfl) ?_; rintro _ _ ⟨rfl, rfl⟩))
    | (refine s1_alloc ?_; (refine sc_w (by rfl) W_allocA (by rfl) ?_; rintro _ _ ⟨_, rfl, rfl⟩))
    | (refine s1_any ?_; refine sc_r (R_nilCheck (by rfl)) (by rfl) ?_)
    | refine swl_nil ?_
    | refine sx_next ?_
    | refine sw_seq ?_
    | refine sw_region ?_
    | refine sw_ret ?_
    | fail)
  refine sx_ret_of (res1 rfl (ResOne.cellA (by rfl) (by infer_instance) (by rfl))) _ ⟨rfl, rfl⟩ (Ent.trans ?_ (med_close h2 (sv := .slice pv vs.length cv)))
  (repeat (first | exact Ent.refl _ | exact Ent.nil | (apply Ent.pick; focus ((repeat (first | exact Rem.here | apply Rem.there)); done)) | apply Ent.drop))

set_option maxHeartbeats 4000000 in
theorem medium_Renew (m d : Nat) (g : Geo) (gens : List Int) (vl : List (Nat × DevS)) (v : Nat) (hv : v < vl.length) (hg0 : 0 ≤ gens.getD v 0 ∧ gens.getD v 0 < 4294967295) (he : spE vl[v].2 = 0) (hw : wfE (eraseS vl[v].2) 0 (labelF v (gens.getD v 0 + 1)) = 0) {F : List HP} [HalvesC F] :
    Tr Tryd.prog 22 [.pointer (some ⟨m, 0, none⟩), .int .i64 v].toArray (medP m d (vl.map Prod.fst) g gens :: devsP vl :: F)
      (fun r L' => r = .int .i64 0 ∧ L' = medP m d (vl.map Prod.fst) g (gens.set v (gens.getD v 0 + 1)) :: devsP (vl.set v (vl[v].1, wfS (eraseS vl[v].2) 0 (labelF v (gens.getD v 0 + 1)))) :: F) := by
  refine Tr.open_med fun pv cv h1 h2 => ?_
  refine tr_enter Tryd.func22 rfl Tryd.ntmps22 rfl fun w0 => ?_
  have hg := mayG_is h2.may
  have hnv := h2.nv
  have hll : (vl.map Prod.fst).length = vl.length := by simp
  have h8 := h2.g8
  rw [hll] at hnv
  have hv2 : decide (0 ≤ (v : Int) ∧ (v : Int) < ((vl.map Prod.fst).length : Int)) = true := by rw [List.length_map]; simp; omega
  obtain ⟨b1, o1, rfl⟩ := h1.ptr (by omega)
  have he1 : ((vl.map Prod.fst).map ptrc).getD v #[] = #[.pointer (some ⟨vl[v].1, 0, none⟩)] := by rw [ptr_get (by omega)]; simp
  have hgg := gens_get (g := g) (d := d) (sv := .slice (some ⟨b1, o1, none⟩) (vl.map Prod.fst).length cv) (gens := gens) (i := v) (by omega)
  have hsz : 0 + 6 + v * 1 < (medCells g d (.slice (some ⟨b1, o1, none⟩) (vl.map Prod.fst).length cv) gens).size := by rw [medCells_size]; omega
  have hsz2 : 0 + 6 + v * 1 < (medCells g d (.slice (some ⟨b1, o1, none⟩) (vl.map Prod.fst).length cv) (gens.set v (-1))).size := by rw [medCells_size, List.length_set]; omega
  have hcut := fun (F : List HP) => devs_cut vl v hv (F := F)
  have hput := fun (S : DevS) (F : List HP) => devs_put vl v hv S (F := F)
  have hgr : ∀ x ∈ gens.set v (gens.getD v 0 + 1), -1 ≤ x ∧ x ≤ 4294967295 := fun x hx => by
    rcases List.mem_or_eq_of_mem_set hx with hx | rfl
    · exact h2.gr x hx
    · omega
  have hss : (gens.set v (-1)).set v (gens.getD v 0 + 1) = gens.set v (gens.getD v 0 + 1) := by simp
  generalize hG : gens.getD v 0 = G at *
  have hlm : labMay v (G + 1) = true := by simp [labMay]; omega
  generalize hS : vl[v].2 = S at *
  generalize hA : vl[v].1 = A at *
  have hse := fun (F : List HP) => steps_e A S F
  unfold erS at hse
  rw [if_pos he, he] at hse
  have hsw := fun (x y z : Nat) (F : List HP) (T1 T2 T3 : TypeId) (p : Option Addr) (n c : Nat) (hx : ReadC F x (.cells #[.pointer (some ⟨A, 0, none⟩)] T1)) (hy : ReadC F y (.cells #[.int .i64 0] T2)) (hz : ReadC F z (.cells #[.slice p n c] T3)) (hb : SlC F p 1 n c ((labelF v (G + 1)).map u8c)) => steps_wf A (eraseS S) 0 (labelF v (G + 1)) (by simp [eraseS]) x y z hx hy hz hb
  rw [hw] at hsw
  repeat' (first
    | (refine s1_store ?_; refine sc_w (by rfl) (W_store1 (by rfl) (by rfl) (by infer_instance) (by rfl) hsz (by rfl)) (by rfl) ?_; rintro _ _ ⟨rfl, rfl⟩; rw [gens_set])
    | (refine s1_store ?_; refine sc_w (by rfl) (W_store1 (by rfl) (by rfl) (by infer_instance) (by rfl) hsz2 (by rfl)) (by rfl) ?_; rintro _ _ ⟨rfl, rfl⟩; rw [gens_set])
    | refine swl_op ?_
    | (refine s1_move ?_; refine sc_r (R_move (by rfl)) (by rfl) ?_)
    | (refine s1_load ?_; first | refine sc_r (L_load' (by rfl) (by infer_instance) (by rfl)) (by rfl) ?_ | refine sc_r (L_load_el1 (by rfl) (by infer_instance) (by omega) (by first | assumption | rfl)) (by rfl) ?_ | refine sc_r (L_load (by rfl) (by infer_instance) (by assumption)) (by rfl) ?_)
    | (refine s1_fieldAddr ?_; refine sc_r (R_fieldAddr (by rfl)) (by rfl) ?_)
    | (refine s1_assign ?_; refine sc_r (R_assign (by rfl)) (by rfl) ?_)
    | (refine s1_bin ?_; first | refine sc_r (R_add64 (by rfl) (by rfl) (by omega)) (by rfl) ?_ | refine sc_r (R_geq (by rfl) (by rfl)) (by rfl) ?_ | refine sc_r (R_eql (by rfl) (by rfl)) (by rfl) ?_ | refine sc_r (R_neq (by rfl) (by rfl)) (by rfl) ?_)
    | (refine s1_call ?_; first | (refine sc_c (by rfl) (C_call (by rfl) (by infer_instance) (by rfl) (by rfl) (medium_is' m v _ (by infer_instance) hv2)) (by rfl) ?_; rintro _ _ ⟨rfl, rfl⟩) | (refine sc_c (by rfl) (C_call (by rfl) (by infer_instance) (by rfl) (by rfl) (label_Label v (G + 1) hlm)) (by rfl) ?_; rintro _ _ ⟨sl2, rfl, rfl⟩; refine swl_know (fun h H => vec_fact H) ?_; rintro ⟨ps2, cs2, rfl, hfs2⟩; rw [List.length_map] at hfs2 ⊢) | (refine sc_c (by rfl) (C_call (by rfl) (by infer_instance) (by rfl) (by rfl) (medium_writing _ _ _ (by rfl) (by rfl) (by rfl))) (by rfl) ?_; rintro _ _ ⟨x, y, z, rfl, rfl⟩) | (refine sc_c (by rfl) (C_call (by rfl) (by infer_instance) (by rfl) (by rfl) (Tr.ent (Ent.trans (Ent.pick (by focus ((repeat (first | exact Rem.here | apply Rem.there)); done)) (Ent.refl _)) (hcut _)) (medium_steps A [fErase A] (hse _) (by infer_instance) (by rfl)))) (by rfl) ?_; rintro _ _ ⟨rfl, rfl⟩) | (refine sc_c (by rfl) (C_call (by rfl) (by infer_instance) (by rfl) (by rfl) (Tr.ent (Ent.pick (by focus ((repeat (first | exact Rem.here | apply Rem.there)); done)) (Ent.refl _)) (medium_steps A [fWrite x y z, fFlush A] (hsw x y z _ _ _ _ _ _ _ (by infer_instance) (by infer_instance) (by infer_instance) (by infer_instance)) (by infer_instance) (by rfl)))) (by rfl) ?_; rintro _ _ ⟨rfl, rfl⟩))
    | (refine s1_indexAddr ?_; first | refine sc_r (R_indexAddr (by rfl) (by rfl) (by omega)) (by rfl) ?_ | refine sc_r (R_indexAddr_arr (by rfl) (by rfl) (by omega)) (by rfl) ?_)
    | (refine s1_any ?_; first | (refine sc_w (by rfl) (W_buildSliceV (by rfl) (by rfl) (by rfl) (by rfl) (by rfl) (by rfl) (by rfl)) (by rfl) ?_; rintro _ _ ⟨_, rfl, rfl, _, _⟩) | refine sc_r (R_not (by rfl)) (by rfl) ?_ | refine sc_r (R_extract (by rfl) (by rfl)) (by rfl) ?_ | refine sc_r (R_nilCheck (by rfl)) (by rfl) ?_ | refine sc_r (R_makeFunc (by rfl) (by rfl)) (by rfl) ?_)
    | refine swl_nil ?_
    | refine sx_next ?_
    | refine sw_seq ?_
    | refine sw_region ?_
    | refine sw_cond_false (by rfl) ?_
    | refine sw_cond_neg (by rfl) (by first | assumption | omega) ?_
    | refine sw_ret ?_
    | refine sw_skip ?_
    | refine swh_lt (by rfl) (fun _ _ => wanted_none) ?_
    | refine swh_nil ?_
    | (refine sw_draw [(0, true), (1, true), (2, true), (3, true), (4, true), (5, true), (6, true), (7, true), (8, true), (9, true), (10, true), (11, true), (12, true), (13, true), (14, true)] follows ?_ ?_ ?_; (focus rfl); (focus (decide +kernel)))
    | fail)
  refine sx_ret_of (res1 rfl (ResOne.tmp rfl)) _ ⟨rfl, rfl⟩ (Ent.trans ?_ (med_close ⟨by simpa using h8, h2.nv, h2.may, hgr⟩ (sv := .slice (some ⟨b1, o1, none⟩) (vl.map Prod.fst).length cv)))
  rw [← hss]
  refine Ent.pick (by focus ((repeat (first | exact Rem.here | apply Rem.there)); done)) (Ent.pick (by focus ((repeat (first | exact Rem.here | apply Rem.there)); done)) (Ent.trans ?_ (hput _ _)))
  (repeat (first | exact Ent.refl _ | exact Ent.nil | (apply Ent.pick; focus ((repeat (first | exact Rem.here | apply Rem.there)); done)) | apply Ent.drop))
end Go.Proofs.YtcpfehldofmipaaDoor
