/-
  Media: made.
-/
import Derived.Test.YtcpfehldofmipaaDoorMed7
namespace Go.Proofs.YtcpfehldofmipaaDoor
open Go Go.SL Go.Proofs

def fmV (vl : List (Nat × DevS)) (i : Nat) : List (Nat × DevS) := vl.mapIdx fun k x => if k < i then (x.1, ewfS x.2 (labelF k 0)) else x
theorem fmV_len (vl : List (Nat × DevS)) (i : Nat) : (fmV vl i).length = vl.length := by simp [fmV]
theorem fmV_fst (vl : List (Nat × DevS)) (i : Nat) : (fmV vl i).map Prod.fst = vl.map Prod.fst := by
  apply List.ext_getElem?
  intro k
  simp only [fmV, List.getElem?_map, List.getElem?_mapIdx]
  cases vl[k]? with
  | none => rfl
  | some x => simp only [Option.map_some]; split <;> rfl
theorem fmV_zero (vl : List (Nat × DevS)) : fmV vl 0 = vl := by
  apply List.ext_getElem?
  intro k
  simp only [fmV, List.getElem?_mapIdx]
  cases vl[k]? <;> simp
theorem fmV_at {vl : List (Nat × DevS)} {i : Nat} (h : i < vl.length) : (fmV vl i)[i]'(by rw [fmV_len]; exact h) = vl[i] := by simp [fmV]
theorem fmV_succ {vl : List (Nat × DevS)} {i : Nat} (h : i < vl.length) : fmV vl (i + 1) = (fmV vl i).set i (vl[i].1, ewfS vl[i].2 (labelF i 0)) := by
  apply List.ext_getElem?
  intro k
  simp only [fmV, List.getElem?_mapIdx, List.getElem?_set, List.length_mapIdx]
  by_cases hk : i = k
  · subst hk; simp [h]
  · rw [if_neg hk]
    have : (k < i + 1) = (k < i) := by simp; omega
    simp only [this]

set_option maxHeartbeats 4000000 in
theorem medium_Format (g : Geo) (d : Nat) (s : DevS) (vl : List (Nat × DevS)) (hm : mayG g = true) (hf : fitsF g s vl = true) (hs : ewfE s (superF g) = 0) (hvs : ∀ i (h : i < vl.length), ewfE vl[i].2 (labelF i 0) = 0) {pv : Option Addr} {nv cv : Nat} {F : List HP} [HalvesC F] (hv : SlC F pv 1 nv cv ((vl.map Prod.fst).map ptrc)) :
    Tr Tryd.prog 11 [.agg g.cells, .pointer (some ⟨d, 0, none⟩), .slice pv nv cv].toArray (devP d s :: devsP vl :: F)
      (fun v L' => ∃ m, v = .tuple #[.pointer (some ⟨m, 0, none⟩), .int .i64 0] ∧ L' = medP m d (vl.map Prod.fst) g (List.replicate vl.length 0 ++ List.replicate (8 - vl.length) (-1)) :: devP d (ewfS s (superF g)) :: devsP (fmV vl vl.length) :: F) := by
  refine tr_enter Tryd.func11 rfl Tryd.ntmps11 rfl fun w0 => ?_
  have hnv : (vl.length : Int) = g.vols := by
    simp only [fitsF, Bool.and_eq_true, decide_eq_true_eq] at hf
    exact hf.1.2
  have hg := mayG_is hm
  have hlen : vl.length = nv := by simpa using hv.len
  have hst := fun (x y z : Nat) (F : List HP) (T1 T2 T3 : TypeId) (p : Option Addr) (n c : Nat) (hx : ReadC F x (.cells #[.pointer (some ⟨d, 0, none⟩)] T1)) (hy : ReadC F y (.cells #[.int .i64 0] T2)) (hz : ReadC F z (.cells #[.slice p n c] T3)) (hb : SlC F p 1 n c ((superF g).map u8c)) => steps_ewf d s (superF g) x y z hx hy hz hb
  rw [hs] at hst
  have hn1 : ((vl.map Prod.fst).length : Int) = g.vols := by rw [List.length_map]; exact hnv
  repeat' (first
    | refine swl_op ?_
    | (refine s1_move ?_; refine sc_r (R_move (by rfl)) (by rfl) ?_)
    | (refine s1_load ?_; first | refine sc_r (L_load' (by rfl) (by infer_instance) (by rfl)) (by rfl) ?_ | refine sc_r (L_load_all (by rfl) (by infer_instance) (by rfl)) (by rfl) ?_)
    | (refine s1_fieldAddr ?_; refine sc_r (R_fieldAddr (by rfl)) (by rfl) ?_)
    | (refine s1_assign ?_; refine sc_r (R_assign (by rfl)) (by rfl) ?_)
    | (refine s1_pick ?_; refine sc_r (R_pick_f (by rfl) (by rfl)) (by rfl) ?_)
    | (refine s1_bin ?_; refine sc_r (R_neq (by rfl) (by rfl)) (by rfl) ?_)
    | (refine s1_call ?_; first | (refine sc_c (by rfl) (C_call (by rfl) (by infer_instance) (by rfl) (by rfl) (addr_May' g _ hm)) (by rfl) ?_; rintro _ _ ⟨rfl, rfl⟩) | (refine sc_c (by rfl) (C_call (by rfl) (by infer_instance) (by rfl) (by rfl) (Tr.ent (Ent.pick (by focus ((repeat (first | exact Rem.here | apply Rem.there)); done)) (Ent.pick (by focus ((repeat (first | exact Rem.here | apply Rem.there)); done)) (Ent.refl _))) (medium_fits' true g hm d s vl hf (by infer_instance)))) (by rfl) ?_; rintro _ _ ⟨rfl, rfl⟩) | (refine sc_c (by rfl) (C_call (by rfl) (by infer_instance) (by rfl) (by rfl) (label_Super g hm)) (by rfl) ?_; rintro _ _ ⟨sl, rfl, rfl⟩; refine swl_know (fun h H => vec_fact H) ?_; rintro ⟨ps, cs, rfl, hfs⟩; rw [List.length_map] at hfs ⊢) | (refine sc_c (by rfl) (C_call (by rfl) (by infer_instance) (by rfl) (by rfl) (medium_writing _ _ _ (by rfl) (by rfl) (by rfl))) (by rfl) ?_; rintro _ _ ⟨x, y, z, rfl, rfl⟩) | (refine sc_c (by rfl) (C_call (by rfl) (by infer_instance) (by rfl) (by rfl) (Tr.ent (Ent.pick (by focus ((repeat (first | exact Rem.here | apply Rem.there)); done)) (Ent.refl _)) (medium_steps d [fErase d, fWrite x y z, fFlush d] (hst x y z _ _ _ _ _ _ _ (by infer_instance) (by infer_instance) (by infer_instance) (by infer_instance)) (by infer_instance) (by rfl)))) (by rfl) ?_; rintro _ _ ⟨rfl, rfl⟩) | (refine sc_c (by rfl) (C_call (by rfl) (by infer_instance) (by rfl) (by rfl) (medium_combine g hm d (vl.map Prod.fst) hn1 (by infer_instance))) (by rfl) ?_; rintro _ _ ⟨m, rfl, rfl⟩; refine swl_open_med fun pw cw hw1 hw2 => ?_) | refine sc_r (R_len (by rfl)) (by rfl) ?_)
    | (refine s1_box ?_; (refine sc_w (by rfl) (W_boxA (by rfl)) (by rfl) ?_; rintro _ _ ⟨_, rfl, rfl⟩))
    | (refine s1_any ?_; first | (refine sc_w (by rfl) (W_buildSliceV (by rfl) (by rfl) (by rfl) (by rfl) (by rfl) (by rfl) (by rfl)) (by rfl) ?_; rintro _ _ ⟨_, rfl, rfl, _, _⟩) | refine sc_r (R_not (by rfl)) (by rfl) ?_ | refine sc_r (R_extract (by rfl) (by rfl)) (by rfl) ?_ | refine sc_r (R_nilCheck (by rfl)) (by rfl) ?_ | refine sc_r (R_makeFunc (by rfl) (by rfl)) (by rfl) ?_)
    | refine swl_nil ?_
    | refine sx_next ?_
    | refine sw_seq ?_
    | refine sw_region ?_
    | refine sw_block ?_
    | refine swl_g_on (by rfl) (by rfl) ?_
    | refine sw_cond_false (by rfl) ?_
    | refine sw_skip ?_
    | fail)

  have hll : (vl.map Prod.fst).length = vl.length := by simp
  have hset : ∀ i, i < 8 → (List.replicate i 0 ++ List.replicate (8 - i) (-1 : Int)).set i 0 = List.replicate (i + 1) 0 ++ List.replicate (8 - (i + 1)) (-1) := by decide
  refine sw_loop (γ := Nat) (fun i => vl.length - i) (fun i => [(11, .pointer (some ⟨m, 0, none⟩)), (54, .slice pw (vl.map Prod.fst).length cw), (55, .int .i64 vl.length), (56, .int .i64 i)])
    (fun i => pt m (.cells (medCells g d (.slice pw (vl.map Prod.fst).length cw) (List.replicate i 0 ++ List.replicate (8 - i) (-1))) 97) :: vec 26 1 ((vl.map Prod.fst).map ptrc) (.slice pw (vl.map Prod.fst).length cw) :: devP d (ewfS s (superF g)) :: devsP (fmV vl i) :: F)
    (fun i => i ≤ vl.length) 0 (by omega) (subE.cons rfl (subE.cons rfl (subE.cons (by refine congrArg (fun z => some (Value.int .i64 z)) ?_; rw [hll]) (subE.cons rfl subE.nil)))) (by rw [fmV_zero]; (repeat (first | exact Ent.refl _ | exact Ent.nil | (apply Ent.pick; focus ((repeat (first | exact Rem.here | apply Rem.there)); done)) | apply Ent.drop))) ?_
  intro i hi
  by_cases hlt : i < vl.length
  · obtain ⟨b1, o1, rfl⟩ := hw1.ptr (by omega)
    have he1 : ((vl.map Prod.fst).map ptrc).getD i #[] = #[.pointer (some ⟨vl[i].1, 0, none⟩)] := by rw [ptr_get (by simpa using hlt)]; simp
    have hcut := fun (F : List HP) => devs_cut (fmV vl i) i (by rw [fmV_len]; exact hlt) (F := F)
    have hput := fun (S : DevS) (F : List HP) => devs_put (fmV vl i) i (by rw [fmV_len]; exact hlt) S (F := F)
    rw [fmV_at hlt] at hcut hput
    have hsu := fmV_succ hlt
    have hs8 := hset i (by omega)
    have hl8 : (List.replicate i 0 ++ List.replicate (8 - i) (-1 : Int)).length = 8 := by simp; omega
    have hsz : 0 + 6 + i * 1 < (medCells g d (.slice (some ⟨b1, o1, none⟩) (vl.map Prod.fst).length cw) (List.replicate i 0 ++ List.replicate (8 - i) (-1))).size := by rw [medCells_size]; omega
    have hlm : labMay i 0 = true := by simp [labMay]; omega
    have hv0 := hvs i hlt
    generalize hS : vl[i].2 = S at *
    generalize hA : vl[i].1 = A at *
    have hstv := fun (x y z : Nat) (F : List HP) (T1 T2 T3 : TypeId) (p : Option Addr) (n c : Nat) (hx : ReadC F x (.cells #[.pointer (some ⟨A, 0, none⟩)] T1)) (hy : ReadC F y (.cells #[.int .i64 0] T2)) (hz : ReadC F z (.cells #[.slice p n c] T3)) (hb : SlC F p 1 n c ((labelF i 0).map u8c)) => steps_ewf A S (labelF i 0) x y z hx hy hz hb
    rw [hv0] at hstv
    repeat' (first
    | refine swl_op ?_
    | (refine s1_move ?_; refine sc_r (R_move (by rfl)) (by rfl) ?_)
    | (refine s1_load ?_; refine sc_r (L_load_el1 (by rfl) (by infer_instance) (by omega) (by first | assumption | rfl)) (by rfl) ?_)
    | (refine s1_fieldAddr ?_; refine sc_r (R_fieldAddr (by rfl)) (by rfl) ?_)
    | (refine s1_assign ?_; refine sc_r (R_assign (by rfl)) (by rfl) ?_)
    | (refine s1_bin ?_; first | refine sc_r (R_lss (by rfl) (by rfl)) (by rfl) ?_ | refine sc_r (R_add64 (by rfl) (by rfl) (by omega)) (by rfl) ?_ | refine sc_r (R_neq (by rfl) (by rfl)) (by rfl) ?_)
    | (refine s1_call ?_; first | (refine sc_c (by rfl) (C_call (by rfl) (by infer_instance) (by rfl) (by rfl) (label_Label i 0 hlm)) (by rfl) ?_; rintro _ _ ⟨sl2, rfl, rfl⟩; refine swl_know (fun h H => vec_fact H) ?_; rintro ⟨ps2, cs2, rfl, hfs2⟩; rw [List.length_map] at hfs2 ⊢) | (refine sc_c (by rfl) (C_call (by rfl) (by infer_instance) (by rfl) (by rfl) (medium_writing _ _ _ (by rfl) (by rfl) (by rfl))) (by rfl) ?_; rintro _ _ ⟨x, y, z, rfl, rfl⟩) | (refine sc_c (by rfl) (C_call (by rfl) (by infer_instance) (by rfl) (by rfl) (Tr.ent (Ent.trans (Ent.pick (by focus ((repeat (first | exact Rem.here | apply Rem.there)); done)) (Ent.refl _)) (hcut _)) (medium_steps A [fErase A, fWrite x y z, fFlush A] (hstv x y z _ _ _ _ _ _ _ (by infer_instance) (by infer_instance) (by infer_instance) (by infer_instance)) (by infer_instance) (by rfl)))) (by rfl) ?_; rintro _ _ ⟨rfl, rfl⟩))
    | (refine s1_indexAddr ?_; first | refine sc_r (R_indexAddr (by rfl) (by rfl) (by omega)) (by rfl) ?_ | refine sc_r (R_indexAddr_arr (by rfl) (by rfl) (by omega)) (by rfl) ?_)
    | (refine s1_store ?_; (refine sc_w (by rfl) (W_store1 (by rfl) (by rfl) (by infer_instance) (by rfl) (by assumption) (by rfl)) (by rfl) ?_; rintro _ _ ⟨rfl, rfl⟩))
    | (refine s1_any ?_; first | (refine sc_w (by rfl) (W_buildSliceV (by rfl) (by rfl) (by rfl) (by rfl) (by rfl) (by rfl) (by rfl)) (by rfl) ?_; rintro _ _ ⟨_, rfl, rfl, _, _⟩) | refine sc_r (R_extract (by rfl) (by rfl)) (by rfl) ?_ | refine sc_r (R_nilCheck (by rfl)) (by rfl) ?_ | refine sc_r (R_makeFunc (by rfl) (by rfl)) (by rfl) ?_)
    | refine swl_nil ?_
    | refine sx_next ?_
    | refine sw_seq ?_
    | refine sw_region ?_
    | refine sw_block ?_
    | refine sx_block_normal ?_
    | refine sw_cond_false (by rfl) ?_
    | refine sw_cond_pos (by rfl) (by first | assumption | omega) ?_
    | refine sw_skip ?_
    | fail)
    refine sx_back (i + 1) (by omega) (by omega) (subE.cons rfl (subE.cons rfl (subE.cons rfl (subE.cons rfl subE.nil)))) ?_
    rw [hsu, ← hs8, ← gens_set]
    refine Ent.pick (by focus ((repeat (first | exact Rem.here | apply Rem.there)); done)) (Ent.pick (by focus ((repeat (first | exact Rem.here | apply Rem.there)); done)) (Ent.pick (by focus ((repeat (first | exact Rem.here | apply Rem.there)); done)) (Ent.trans ?_ (hput _ _))))
    (repeat (first | exact Ent.refl _ | exact Ent.nil | (apply Ent.pick; focus ((repeat (first | exact Rem.here | apply Rem.there)); done)) | apply Ent.drop))
  · obtain rfl : i = vl.length := by omega
    repeat' (first
    | refine swl_op ?_
    | (refine s1_move ?_; refine sc_r (R_move (by rfl)) (by rfl) ?_)
    | (refine s1_assign ?_; refine sc_r (R_assign (by rfl)) (by rfl) ?_)
    | (refine s1_bin ?_; refine sc_r (R_lss (by rfl) (by rfl)) (by rfl) ?_)
    | refine swl_nil ?_
    | refine sx_next ?_
    | refine sw_seq ?_
    | refine sw_region ?_
    | refine sx_past_exit ?_
    | refine sx_block_here ?_
    | refine sw_cond_neg (by rfl) (by first | assumption | omega) ?_
    | refine sw_ret ?_
    | refine sw_exit ?_
    | fail)
    refine sx_ret_of (res2 rfl (ResOne.tmp rfl) (ResOne.tmp rfl)) _ ⟨_, rfl, rfl⟩ (Ent.trans ?_ (med_close ⟨by simp; omega, hn1, hm, ?_⟩ (sv := .slice pw (vl.map Prod.fst).length cw)))
    · (repeat (first | exact Ent.refl _ | exact Ent.nil | (apply Ent.pick; focus ((repeat (first | exact Rem.here | apply Rem.there)); done)) | apply Ent.drop))
    · intro x hx
      rcases List.mem_append.1 hx with hx | hx
      · rw [(List.mem_replicate.1 hx).2]; omega
      · rw [(List.mem_replicate.1 hx).2]; omega
end Go.Proofs.YtcpfehldofmipaaDoor
