/-
  Media: put together.
-/
import Derived.Test.YtcpfehldofmipaaDoorMed5
namespace Go.Proofs.YtcpfehldofmipaaDoor
open Go Go.SL Go.Proofs

theorem medCells_size (g : Geo) (d : Nat) (sv : Value) (gens : List Int) : (medCells g d sv gens).size = 6 + gens.length := by simp [medCells]; omega
set_option maxHeartbeats 1000000 in
theorem medium_combine (g : Geo) (hm : mayG g = true) (d : Nat) (vs : List Nat) (hn : (vs.length : Int) = g.vols) {pv : Option Addr} {nv cv : Nat} {F : List HP} (hv : SlC F pv 1 nv cv (vs.map ptrc)) :
    Tr Tryd.prog 43 [.agg g.cells, .pointer (some ⟨d, 0, none⟩), .slice pv nv cv].toArray F (fun v L' => ∃ m, v = .pointer (some ⟨m, 0, none⟩) ∧ L' = medP m d vs g (List.replicate 8 (-1)) :: F) := by
  have hlen : vs.length = nv := by simpa using hv.len
  have hg := mayG_is hm
  refine tr_enter Tryd.func43 rfl Tryd.ntmps43 rfl fun w0 => ?_
  unfold Geo.cells
  repeat' (first
    | refine swl_op ?_
    | (refine s1_assign ?_; refine sc_r (R_assign (by rfl)) (by rfl) ?_)
    | (refine s1_box ?_; (refine sc_w (by rfl) (W_boxA (by rfl)) (by rfl) ?_; rintro _ _ ⟨_, rfl, rfl⟩))
    | refine swl_nil ?_
    | refine sx_next ?_
    | refine sw_seq ?_
    | refine sw_region ?_
    | fail)
  rename_i b3
  refine sw_ent (Ent.vec_nil (e := 26) (k := 1)) ?_
  repeat' (first
    | refine swl_op ?_
    | (refine s1_move ?_; refine sc_r (R_move (by rfl)) (by rfl) ?_)
    | (refine s1_load ?_; refine sc_r (L_load_all (by rfl) (by infer_instance) (by rfl)) (by rfl) ?_)
    | (refine s1_assign ?_; refine sc_r (R_assign (by rfl)) (by rfl) ?_)
    | (refine s1_call ?_; (refine sc_w (by rfl) (W_appendA (by rfl) (by rfl) (by focus ((repeat (first | exact Rem.here | apply Rem.there)); done)) (by infer_instance) (by intro x hx; obtain ⟨z, _, rfl⟩ := List.mem_map.1 hx; rfl) (by intro x hx u hu; obtain ⟨z, _, rfl⟩ := List.mem_map.1 hx; obtain rfl := List.mem_singleton.1 hu; rfl) (by simp; omega)) (by rfl) ?_; rintro vv _ rfl; refine ⟨by (repeat (first | exact Ent.refl _ | exact Ent.nil | (apply Ent.pick; focus ((repeat (first | exact Rem.here | apply Rem.there)); done)) | apply Ent.drop)), ?_⟩; refine swh_know (fun h H => vec_fact H) ?_; rintro ⟨pw, cw, rfl, hw⟩))
    | (refine s1_box ?_; (refine sc_w (by rfl) (W_boxA (by rfl)) (by rfl) ?_; rintro _ _ ⟨_, rfl, rfl⟩))
    | (refine s1_any ?_; refine sc_r (R_buildL (by rfl) (by rfl)) (by rfl) ?_)
    | refine swl_nil ?_
    | refine sx_next ?_
    | refine sw_seq ?_
    | refine sw_region ?_
    | refine sw_block ?_
    | refine swh_lt (by rfl) (fun _ _ => wanted_none) ?_
    | refine swh_hv (by rfl) (fun _ _ => wanted_none) ?_
    | refine swh_nil ?_
    | (apply And.intro; focus ((repeat (first | exact Ent.refl _ | exact Ent.nil | (apply Ent.pick; focus ((repeat (first | exact Rem.here | apply Rem.there)); done)) | apply Ent.drop)); done))
    | (refine sw_region_draw (pt b3 (.cells #[.int .i64 g.disk, .int .i64 g.lines, .int .i64 g.vols, .int .i64 g.segs] 23) :: F) [(0, true), (1, true), (2, true), (3, false), (4, true), (5, false), (6, true)] follows ?_ ?_ ?_ ?_; (focus rfl); (focus (decide +kernel)); (focus ((repeat (first | exact Ent.refl _ | exact Ent.nil | (apply Ent.pick; focus ((repeat (first | exact Rem.here | apply Rem.there)); done)) | apply Ent.drop)); done)))
    | fail)
  rename_i m
  have hll : ([] ++ vs.map ptrc).length = vs.length := by simp
  have hset : ∀ i, i < 8 → (List.replicate i (-1) ++ List.replicate (8 - i) (0 : Int)).set i (-1) = List.replicate (i + 1) (-1) ++ List.replicate (8 - (i + 1)) 0 := by decide
  refine sw_loop (γ := Nat) (fun i => 8 - i) (fun i => [(7, .pointer (some ⟨m, 0, none⟩)), (15, .int .i64 i)]) (fun i => pt m (.cells (medCells g d (.slice pw ([] ++ vs.map ptrc).length cw) (List.replicate i (-1) ++ List.replicate (8 - i) 0)) 97) :: vec 26 1 ([] ++ vs.map ptrc) (.slice pw ([] ++ vs.map ptrc).length cw) :: F)
    (fun i => i ≤ 8) 0 (by omega) (subE.cons rfl (subE.cons rfl subE.nil)) (by (repeat (first | exact Ent.refl _ | exact Ent.nil | (apply Ent.pick; focus ((repeat (first | exact Rem.here | apply Rem.there)); done)) | apply Ent.drop))) ?_
  intro i hi
  by_cases hlt : i < 8
  · have hs8 := hset i hlt
    have hl8 : (List.replicate i (-1) ++ List.replicate (8 - i) (0 : Int)).length = 8 := by simp; omega
    generalize List.replicate i (-1) ++ List.replicate (8 - i) (0 : Int) = gens at *
    have hsz : 0 + 6 + i * 1 < (medCells g d (.slice pw ([] ++ vs.map ptrc).length cw) gens).size := by rw [medCells_size]; omega
    repeat' (first
    | refine swl_op ?_
    | (refine s1_move ?_; refine sc_r (R_move (by rfl)) (by rfl) ?_)
    | (refine s1_fieldAddr ?_; refine sc_r (R_fieldAddr (by rfl)) (by rfl) ?_)
    | (refine s1_assign ?_; refine sc_r (R_assign (by rfl)) (by rfl) ?_)
    | (refine s1_bin ?_; first | refine sc_r (R_lss (by rfl) (by rfl)) (by rfl) ?_ | refine sc_r (R_add64 (by rfl) (by rfl) (by omega)) (by rfl) ?_)
    | (refine s1_indexAddr ?_; refine sc_r (R_indexAddr_arr (by rfl) (by rfl) (by omega)) (by rfl) ?_)
    | (refine s1_store ?_; (refine sc_w (by rfl) (W_store1 (by rfl) (by rfl) (by infer_instance) (by rfl) (by assumption) (by rfl)) (by rfl) ?_; rintro _ _ ⟨rfl, rfl⟩))
    | (refine s1_any ?_; refine sc_r (R_nilCheck (by rfl)) (by rfl) ?_)
    | refine swl_nil ?_
    | refine sx_next ?_
    | refine sw_seq ?_
    | refine sw_region ?_
    | refine sw_block ?_
    | refine sx_block_normal ?_
    | refine sw_cond_pos (by rfl) (by first | assumption | omega) ?_
    | refine sw_skip ?_
    | fail)
    refine sx_back (i + 1) (by omega) (by omega) (subE.cons rfl (subE.cons rfl subE.nil)) ?_
    rw [← hs8, ← gens_set]
    (repeat (first | exact Ent.refl _ | exact Ent.nil | (apply Ent.pick; focus ((repeat (first | exact Rem.here | apply Rem.there)); done)) | apply Ent.drop))
  · obtain rfl : i = 8 := by omega
    repeat' (first
    | refine swl_op ?_
    | (refine s1_move ?_; refine sc_r (R_move (by rfl)) (by rfl) ?_)
    | (refine s1_assign ?_; refine sc_r (R_assign (by rfl)) (by rfl) ?_)
    | (refine s1_bin ?_; refine sc_r (R_lss (by rfl) (by rfl)) (by rfl) ?_)
    | refine swl_nil ?_
    | refine sx_next ?_
    | refine sw_seq ?_
    | refine sw_region ?_
    | refine sx_past_exit ?_
    | refine sx_block_here ?_
    | refine sw_cond_false (by rfl) ?_
    | refine sw_ret ?_
    | refine sw_exit ?_
    | fail)
    refine sx_ret_of (res1 rfl (ResOne.tmp rfl)) _ ⟨_, rfl, rfl⟩ (Ent.trans ?_ (med_close ⟨by simp, hn, hm, by simp⟩ (sv := .slice pw ([] ++ vs.map ptrc).length cw)))
    (repeat (first | exact Ent.refl _ | exact Ent.nil | (apply Ent.pick; focus ((repeat (first | exact Rem.here | apply Rem.there)); done)) | apply Ent.drop))
end Go.Proofs.YtcpfehldofmipaaDoor
