/-
  Media: opened.
-/
import Derived.Test.YtcpfehldofmipaaDoorMed8
namespace Go.Proofs.YtcpfehldofmipaaDoor
open Go Go.SL Go.Proofs

theorem readSuperF_ok {b : List Int} (h : (readSuperF b).2 = 0) : mayG (readSuperF b).1 = true := by
  unfold readSuperF at h ⊢
  dsimp only at h ⊢
  split at h
  · rename_i h0
    rw [if_pos h0]
    split at h
    · rename_i hm
      rw [if_pos hm]; exact hm
    · simp at h
  · rename_i h0
    exact absurd h h0
theorem genLab_bd (vol : Int) (s : DevS) : -1 ≤ genLab vol s ∧ genLab vol s ≤ 4294967295 := by
  unfold genLab
  split
  · split
    · rename_i h
      obtain ⟨h1, _⟩ := h
      unfold readLabelF at h1 ⊢
      dsimp only at h1 ⊢
      split at h1
      · rename_i h2
        rw [if_pos h2]
        split at h1
        · rename_i h3
          rw [if_pos h3]
          simp only [labMay, decide_eq_true_eq] at h3
          dsimp only
          omega
        · simp at h1
      · rename_i h2
        exact absurd h1 h2
    · omega
  · omega
def openE (s : DevS) (vl : List (Nat × DevS)) : Int := if s.blocks.length < 16 then 1 else if rdE s 0 = 0 then (if (readSuperF (rdB s 0)).2 = 0 then (if fitsF (readSuperF (rdB s 0)).1 s vl then 0 else 1) else (readSuperF (rdB s 0)).2) else rdE s 0
def openG (vl : List (Nat × DevS)) (i : Nat) : List Int := ((vl.take i).mapIdx fun k x => genLab k x.2) ++ List.replicate (8 - i) (-1)
theorem openG_len {vl : List (Nat × DevS)} {i : Nat} (h : i ≤ vl.length) (h8 : i ≤ 8) : (openG vl i).length = 8 := by simp [openG]; omega
theorem openG_succ {vl : List (Nat × DevS)} {i : Nat} (h : i < vl.length) (h8 : i < 8) : (openG vl i).set i (genLab i vl[i].2) = openG vl (i + 1) := by
  have h1 : ((vl.take i).mapIdx fun k x => genLab k x.2).length = i := by simp; omega
  unfold openG
  rw [List.set_append_right _ _ (by omega), h1, Nat.sub_self, List.take_succ_eq_append_getElem h, List.mapIdx_append]
  rw [show 8 - i = (8 - (i + 1)) + 1 by omega, List.replicate_succ, List.set_cons_zero, List.append_assoc]
  congr 1
  simp [show min i vl.length = i by omega]
theorem devs_generation (vol : Int) (vl : List (Nat × DevS)) (i : Nat) (h : i < vl.length) {F : List HP} [HalvesC F] : Tr Tryd.prog 48 [.int .i64 vol, .pointer (some ⟨vl[i].1, 0, none⟩)].toArray (devsP vl :: F) (fun v L' => v = .int .i64 (genLab vol vl[i].2) ∧ L' = devsP vl :: F) :=
  (Tr.ent (devs_cut vl i h) (medium_generation vol vl[i].1 vl[i].2)).weaken fun v L' ⟨h1, h2⟩ => ⟨_, by rw [h2]; exact devs_same vl i h, h1, rfl⟩

set_option maxHeartbeats 1000000 in
theorem medium_Open_no (d : Nat) (s : DevS) (vl : List (Nat × DevS)) (h : openE s vl ≠ 0) {pv : Option Addr} {nv cv : Nat} {F : List HP} [HalvesC F] (hv : SlC F pv 1 nv cv ((vl.map Prod.fst).map ptrc)) :
    Tr Tryd.prog 12 [.pointer (some ⟨d, 0, none⟩), .slice pv nv cv].toArray (devP d s :: devsP vl :: F) (fun v L' => v = .tuple #[.pointer none, .int .i64 (openE s vl)] ∧ L' = devP d s :: devsP vl :: F) := by
  refine tr_enter Tryd.func12 rfl Tryd.ntmps12 rfl fun w0 => ?_
  have hR := fun (L : List HP) => dev_Read d s 0 (L := L)
  unfold openE at h ⊢
  by_cases h16 : s.blocks.length < 16
  · rw [if_pos h16]
    repeat' (first
    | refine swl_op ?_
    | (refine s1_move ?_; refine sc_r (R_move (by rfl)) (by rfl) ?_)
    | (refine s1_assign ?_; refine sc_r (R_assign (by rfl)) (by rfl) ?_)
    | (refine s1_bin ?_; refine sc_r (R_lss (by rfl) (by rfl)) (by rfl) ?_)
    | (refine s1_call ?_; (refine sc_c (by rfl) (C_call (by rfl) (by infer_instance) (by rfl) (by rfl) (Tr.ent (Ent.pick (by focus ((repeat (first | exact Rem.here | apply Rem.there)); done)) (Ent.refl _)) (dev_Size d s))) (by rfl) ?_; rintro _ _ ⟨rfl, rfl⟩))
    | refine swl_nil ?_
    | refine sx_next ?_
    | refine sw_seq ?_
    | refine sw_region ?_
    | refine sx_past_ret ?_
    | refine sw_cond_pos (by rfl) (by first | assumption | omega) ?_
    | refine sw_ret ?_
    | fail)
    exact sx_ret_of (res2 rfl (ResOne.tmp rfl) (ResOne.tmp rfl)) _ ⟨rfl, rfl⟩ (by (repeat (first | exact Ent.refl _ | exact Ent.nil | (apply Ent.pick; focus ((repeat (first | exact Rem.here | apply Rem.there)); done)) | apply Ent.drop)))
  · rw [if_neg h16] at h ⊢
    by_cases hr : rdE s 0 = 0
    · rw [if_pos hr] at h ⊢
      rw [hr] at hR
      have hL := fun (L : List HP) (hg : HalvesC L) (p : Option Addr) (n c : Nat) (h : SlC L p 1 n c ((rdB s 0).map u8c)) => label_ReadSuper (rdB s 0) h
      have hmay := readSuperF_ok (b := rdB s 0)
      generalize readSuperF (rdB s 0) = r at *
      obtain ⟨g, e⟩ := r
      dsimp only at hL h hmay ⊢
      by_cases he : e = 0
      · subst he
        rw [if_pos rfl] at h ⊢
        have hm := hmay rfl
        have hfi : fitsF g s vl = false := by
          cases hq : fitsF g s vl
          · rfl
          · rw [hq] at h; simp at h
        rw [hfi, if_neg (by simp)]
        repeat' (first
    | refine swl_op ?_
    | (refine s1_move ?_; refine sc_r (R_move (by rfl)) (by rfl) ?_)
    | (refine s1_load ?_; refine sc_r (L_load_all (by rfl) (by infer_instance) (by rfl)) (by rfl) ?_)
    | (refine s1_assign ?_; refine sc_r (R_assign (by rfl)) (by rfl) ?_)
    | (refine s1_bin ?_; first | refine sc_r (R_lss (by rfl) (by rfl)) (by rfl) ?_ | refine sc_r (R_neq (by rfl) (by rfl)) (by rfl) ?_)
    | (refine s1_call ?_; first | (refine sc_c (by rfl) (C_call (by rfl) (by infer_instance) (by rfl) (by rfl) (Tr.ent (Ent.pick (by focus ((repeat (first | exact Rem.here | apply Rem.there)); done)) (Ent.refl _)) (dev_Size d s))) (by rfl) ?_; rintro _ _ ⟨rfl, rfl⟩) | (refine sc_c (by rfl) (C_call (by rfl) (by infer_instance) (by rfl) (by rfl) (Tr.ent (Ent.pick (by focus ((repeat (first | exact Rem.here | apply Rem.there)); done)) (Ent.refl _)) (hR _))) (by rfl) ?_; rintro _ _ ⟨sl, rfl, rfl⟩; refine swl_know (fun h H => vec_fact H) ?_; rintro ⟨pc, cc, rfl, hf⟩; rw [List.length_map] at hf ⊢) | (refine sc_c (by rfl) (C_call (by rfl) (by infer_instance) (by rfl) (by rfl) (hL _ (by infer_instance) _ _ _ (by infer_instance))) (by rfl) ?_; rintro _ _ ⟨rfl, rfl⟩) | (refine sc_c (by rfl) (C_call (by rfl) (by infer_instance) (by rfl) (by rfl) (Tr.ent (Ent.pick (by focus ((repeat (first | exact Rem.here | apply Rem.there)); done)) (Ent.pick (by focus ((repeat (first | exact Rem.here | apply Rem.there)); done)) (Ent.refl _))) (medium_fits' false g hm d s vl hfi (by infer_instance)))) (by rfl) ?_; rintro _ _ ⟨rfl, rfl⟩))
    | (refine s1_store ?_; (refine sc_w (by rfl) (W_storeAll (by rfl) (by rfl) (by infer_instance) (by rfl) (by rfl) (by rfl)) (by rfl) ?_; rintro _ _ ⟨rfl, rfl⟩))
    | (refine s1_alloc ?_; (refine sc_w (by rfl) W_allocA (by rfl) ?_; rintro _ _ ⟨_, rfl, rfl⟩))
    | (refine s1_any ?_; first | refine sc_r (R_not (by rfl)) (by rfl) ?_ | refine sc_r (R_extract (by rfl) (by rfl)) (by rfl) ?_)
    | refine swl_nil ?_
    | refine sx_next ?_
    | refine sw_seq ?_
    | refine sw_region ?_
    | refine sx_past_ret ?_
    | refine sw_cond_true (by rfl) ?_
    | refine sw_cond_false (by rfl) ?_
    | refine sw_cond_neg (by rfl) (by first | assumption | omega) ?_
    | refine sw_ret ?_
    | refine sw_skip ?_
    | fail)
        exact sx_ret_of (res2 rfl (ResOne.tmp rfl) (ResOne.tmp rfl)) _ ⟨rfl, rfl⟩ (by (repeat (first | exact Ent.refl _ | exact Ent.nil | (apply Ent.pick; focus ((repeat (first | exact Rem.here | apply Rem.there)); done)) | apply Ent.drop)))
      · rw [if_neg he]
        repeat' (first
    | refine swl_op ?_
    | (refine s1_move ?_; refine sc_r (R_move (by rfl)) (by rfl) ?_)
    | (refine s1_assign ?_; refine sc_r (R_assign (by rfl)) (by rfl) ?_)
    | (refine s1_bin ?_; first | refine sc_r (R_lss (by rfl) (by rfl)) (by rfl) ?_ | refine sc_r (R_neq (by rfl) (by rfl)) (by rfl) ?_)
    | (refine s1_call ?_; first | (refine sc_c (by rfl) (C_call (by rfl) (by infer_instance) (by rfl) (by rfl) (Tr.ent (Ent.pick (by focus ((repeat (first | exact Rem.here | apply Rem.there)); done)) (Ent.refl _)) (dev_Size d s))) (by rfl) ?_; rintro _ _ ⟨rfl, rfl⟩) | (refine sc_c (by rfl) (C_call (by rfl) (by infer_instance) (by rfl) (by rfl) (Tr.ent (Ent.pick (by focus ((repeat (first | exact Rem.here | apply Rem.there)); done)) (Ent.refl _)) (hR _))) (by rfl) ?_; rintro _ _ ⟨sl, rfl, rfl⟩; refine swl_know (fun h H => vec_fact H) ?_; rintro ⟨pc, cc, rfl, hf⟩; rw [List.length_map] at hf ⊢) | (refine sc_c (by rfl) (C_call (by rfl) (by infer_instance) (by rfl) (by rfl) (hL _ (by infer_instance) _ _ _ (by infer_instance))) (by rfl) ?_; rintro _ _ ⟨rfl, rfl⟩))
    | (refine s1_store ?_; (refine sc_w (by rfl) (W_storeAll (by rfl) (by rfl) (by infer_instance) (by rfl) (by rfl) (by rfl)) (by rfl) ?_; rintro _ _ ⟨rfl, rfl⟩))
    | (refine s1_alloc ?_; (refine sc_w (by rfl) W_allocA (by rfl) ?_; rintro _ _ ⟨_, rfl, rfl⟩))
    | (refine s1_any ?_; refine sc_r (R_extract (by rfl) (by rfl)) (by rfl) ?_)
    | refine swl_nil ?_
    | refine sx_next ?_
    | refine sw_seq ?_
    | refine sw_region ?_
    | refine sx_past_ret ?_
    | refine sw_cond_false (by rfl) ?_
    | refine sw_cond_neg (by rfl) (by first | assumption | omega) ?_
    | refine sw_cond_nneg (by rfl) (by first | assumption | omega) ?_
    | refine sw_ret ?_
    | refine sw_skip ?_
    | fail)
        exact sx_ret_of (res2 rfl (ResOne.tmp rfl) (ResOne.tmp rfl)) _ ⟨rfl, rfl⟩ (by (repeat (first | exact Ent.refl _ | exact Ent.nil | (apply Ent.pick; focus ((repeat (first | exact Rem.here | apply Rem.there)); done)) | apply Ent.drop)))
    · rw [if_neg hr]
      repeat' (first
    | refine swl_op ?_
    | (refine s1_move ?_; refine sc_r (R_move (by rfl)) (by rfl) ?_)
    | (refine s1_assign ?_; refine sc_r (R_assign (by rfl)) (by rfl) ?_)
    | (refine s1_bin ?_; first | refine sc_r (R_lss (by rfl) (by rfl)) (by rfl) ?_ | refine sc_r (R_neq (by rfl) (by rfl)) (by rfl) ?_)
    | (refine s1_call ?_; first | (refine sc_c (by rfl) (C_call (by rfl) (by infer_instance) (by rfl) (by rfl) (Tr.ent (Ent.pick (by focus ((repeat (first | exact Rem.here | apply Rem.there)); done)) (Ent.refl _)) (dev_Size d s))) (by rfl) ?_; rintro _ _ ⟨rfl, rfl⟩) | (refine sc_c (by rfl) (C_call (by rfl) (by infer_instance) (by rfl) (by rfl) (Tr.ent (Ent.pick (by focus ((repeat (first | exact Rem.here | apply Rem.there)); done)) (Ent.refl _)) (hR _))) (by rfl) ?_; rintro _ _ ⟨sl, rfl, rfl⟩; refine swl_know (fun h H => vec_fact H) ?_; rintro ⟨pc, cc, rfl, hf⟩; rw [List.length_map] at hf ⊢))
    | (refine s1_any ?_; refine sc_r (R_extract (by rfl) (by rfl)) (by rfl) ?_)
    | refine swl_nil ?_
    | refine sx_next ?_
    | refine sw_seq ?_
    | refine sw_region ?_
    | refine sx_past_ret ?_
    | refine sw_cond_neg (by rfl) (by first | assumption | omega) ?_
    | refine sw_cond_nneg (by rfl) (by first | assumption | omega) ?_
    | refine sw_ret ?_
    | refine sw_skip ?_
    | fail)
      exact sx_ret_of (res2 rfl (ResOne.tmp rfl) (ResOne.tmp rfl)) _ ⟨rfl, rfl⟩ (by (repeat (first | exact Ent.refl _ | exact Ent.nil | (apply Ent.pick; focus ((repeat (first | exact Rem.here | apply Rem.there)); done)) | apply Ent.drop)))

set_option maxHeartbeats 4000000 in
theorem medium_Open (d : Nat) (s : DevS) (vl : List (Nat × DevS)) (h : openE s vl = 0) {pv : Option Addr} {nv cv : Nat} {F : List HP} [HalvesC F] (hv : SlC F pv 1 nv cv ((vl.map Prod.fst).map ptrc)) :
    Tr Tryd.prog 12 [.pointer (some ⟨d, 0, none⟩), .slice pv nv cv].toArray (devP d s :: devsP vl :: F)
      (fun v L' => ∃ m, v = .tuple #[.pointer (some ⟨m, 0, none⟩), .int .i64 0] ∧ L' = medP m d (vl.map Prod.fst) (readSuperF (rdB s 0)).1 (openG vl vl.length) :: devP d s :: devsP vl :: F) := by
  refine tr_enter Tryd.func12 rfl Tryd.ntmps12 rfl fun w0 => ?_
  have hR := fun (L : List HP) => dev_Read d s 0 (L := L)
  unfold openE at h
  by_cases h16 : s.blocks.length < 16
  · rw [if_pos h16] at h; simp at h
  rw [if_neg h16] at h
  by_cases hr : rdE s 0 = 0
  rotate_left
  · rw [if_neg hr] at h; exact absurd h hr
  rw [if_pos hr] at h
  rw [hr] at hR
  have hL := fun (L : List HP) (hg : HalvesC L) (p : Option Addr) (n c : Nat) (h : SlC L p 1 n c ((rdB s 0).map u8c)) => label_ReadSuper (rdB s 0) h
  have hmay := readSuperF_ok (b := rdB s 0)
  generalize readSuperF (rdB s 0) = r at *
  obtain ⟨g, e⟩ := r
  dsimp only at hL h hmay ⊢
  by_cases he : e = 0
  rotate_left
  · rw [if_neg he] at h; exact absurd h he
  subst he
  rw [if_pos rfl] at h
  have hm := hmay rfl
  have hfi : fitsF g s vl = true := by
    cases hq : fitsF g s vl
    · rw [hq] at h; simp at h
    · rfl
  have hnv : (vl.length : Int) = g.vols := by
    have hfi2 := hfi
    simp only [fitsF, Bool.and_eq_true, decide_eq_true_eq] at hfi2
    exact hfi2.1.2
  have hg := mayG_is hm
  have hlen : vl.length = nv := by simpa using hv.len
  have hn1 : ((vl.map Prod.fst).length : Int) = g.vols := by rw [List.length_map]; exact hnv
  have hcb := fun (F : List HP) (pv : Option Addr) (nv cv : Nat) (hv : SlC F pv 1 nv cv ((vl.map Prod.fst).map ptrc)) => medium_combine g hm d (vl.map Prod.fst) hn1 hv
  unfold Geo.cells at *
  repeat' (first
    | refine swl_op ?_
    | (refine s1_move ?_; refine sc_r (R_move (by rfl)) (by rfl) ?_)
    | (refine s1_load ?_; first | refine sc_r (L_load' (by rfl) (by infer_instance) (by rfl)) (by rfl) ?_ | refine sc_r (L_load_all (by rfl) (by infer_instance) (by rfl)) (by rfl) ?_)
    | (refine s1_fieldAddr ?_; refine sc_r (R_fieldAddr (by rfl)) (by rfl) ?_)
    | (refine s1_assign ?_; refine sc_r (R_assign (by rfl)) (by rfl) ?_)
    | (refine s1_bin ?_; first | refine sc_r (R_lss (by rfl) (by rfl)) (by rfl) ?_ | refine sc_r (R_neq (by rfl) (by rfl)) (by rfl) ?_)
    | (refine s1_call ?_; first | (refine sc_c (by rfl) (C_call (by rfl) (by infer_instance) (by rfl) (by rfl) (Tr.ent (Ent.pick (by focus ((repeat (first | exact Rem.here | apply Rem.there)); done)) (Ent.refl _)) (dev_Size d s))) (by rfl) ?_; rintro _ _ ⟨rfl, rfl⟩) | (refine sc_c (by rfl) (C_call (by rfl) (by infer_instance) (by rfl) (by rfl) (Tr.ent (Ent.pick (by focus ((repeat (first | exact Rem.here | apply Rem.there)); done)) (Ent.refl _)) (hR _))) (by rfl) ?_; rintro _ _ ⟨sl, rfl, rfl⟩; refine swl_know (fun h H => vec_fact H) ?_; rintro ⟨pc, cc, rfl, hf⟩; rw [List.length_map] at hf ⊢) | (refine sc_c (by rfl) (C_call (by rfl) (by infer_instance) (by rfl) (by rfl) (hL _ (by infer_instance) _ _ _ (by infer_instance))) (by rfl) ?_; rintro _ _ ⟨rfl, rfl⟩) | (refine sc_c (by rfl) (C_call (by rfl) (by infer_instance) (by rfl) (by rfl) (Tr.ent (Ent.pick (by focus ((repeat (first | exact Rem.here | apply Rem.there)); done)) (Ent.pick (by focus ((repeat (first | exact Rem.here | apply Rem.there)); done)) (Ent.refl _))) (medium_fits' true g hm d s vl hfi (by infer_instance)))) (by rfl) ?_; rintro _ _ ⟨rfl, rfl⟩) | (refine sc_c (by rfl) (C_call (by rfl) (by infer_instance) (by rfl) (by rfl) (hcb _ _ _ _ (by infer_instance))) (by rfl) ?_; rintro _ _ ⟨m, rfl, rfl⟩; refine swl_open_med fun pw cw hw1 hw2 => ?_) | refine sc_r (R_len (by rfl)) (by rfl) ?_)
    | (refine s1_store ?_; (refine sc_w (by rfl) (W_storeAll (by rfl) (by rfl) (by infer_instance) (by rfl) (by rfl) (by rfl)) (by rfl) ?_; rintro _ _ ⟨rfl, rfl⟩))
    | (refine s1_alloc ?_; (refine sc_w (by rfl) W_allocA (by rfl) ?_; rintro _ _ ⟨_, rfl, rfl⟩))
    | (refine s1_any ?_; first | refine sc_r (R_not (by rfl)) (by rfl) ?_ | refine sc_r (R_extract (by rfl) (by rfl)) (by rfl) ?_ | refine sc_r (R_nilCheck (by rfl)) (by rfl) ?_)
    | refine swl_nil ?_
    | refine sx_next ?_
    | refine sw_seq ?_
    | refine sw_region ?_
    | refine sw_block ?_
    | refine sw_cond_false (by rfl) ?_
    | refine sw_cond_neg (by rfl) (by first | assumption | omega) ?_
    | refine sw_skip ?_
    | fail)
  have hll : (vl.map Prod.fst).length = vl.length := by simp
  refine sw_loop (γ := Nat) (fun i => vl.length - i) (fun i => [(9, .pointer (some ⟨m, 0, none⟩)), (43, .slice pw (vl.map Prod.fst).length cw), (44, .int .i64 vl.length), (45, .int .i64 i)])
    (fun i => pt m (.cells (medCells g d (.slice pw (vl.map Prod.fst).length cw) (openG vl i)) 97) :: vec 26 1 ((vl.map Prod.fst).map ptrc) (.slice pw (vl.map Prod.fst).length cw) :: devP d s :: devsP vl :: F)
    (fun i => i ≤ vl.length) 0 (by omega) (subE.cons rfl (subE.cons rfl (subE.cons (by refine congrArg (fun z => some (Value.int .i64 z)) ?_; rw [hll]) (subE.cons rfl subE.nil)))) (by (repeat (first | exact Ent.refl _ | exact Ent.nil | (apply Ent.pick; focus ((repeat (first | exact Rem.here | apply Rem.there)); done)) | apply Ent.drop))) ?_
  intro i hi
  by_cases hlt : i < vl.length
  · obtain ⟨b1, o1, rfl⟩ := hw1.ptr (by omega)
    have he1 : ((vl.map Prod.fst).map ptrc).getD i #[] = #[.pointer (some ⟨vl[i].1, 0, none⟩)] := by rw [ptr_get (by simpa using hlt)]; simp
    have hgl := openG_len hi (by omega)
    have hgs := openG_succ hlt (by omega)
    have hsz : 0 + 6 + i * 1 < (medCells g d (.slice (some ⟨b1, o1, none⟩) (vl.map Prod.fst).length cw) (openG vl i)).size := by rw [medCells_size]; omega
    repeat' (first
    | refine swl_op ?_
    | (refine s1_move ?_; refine sc_r (R_move (by rfl)) (by rfl) ?_)
    | (refine s1_load ?_; refine sc_r (L_load_el1 (by rfl) (by infer_instance) (by omega) (by first | assumption | rfl)) (by rfl) ?_)
    | (refine s1_fieldAddr ?_; refine sc_r (R_fieldAddr (by rfl)) (by rfl) ?_)
    | (refine s1_assign ?_; refine sc_r (R_assign (by rfl)) (by rfl) ?_)
    | (refine s1_bin ?_; first | refine sc_r (R_lss (by rfl) (by rfl)) (by rfl) ?_ | refine sc_r (R_add64 (by rfl) (by rfl) (by omega)) (by rfl) ?_)
    | (refine s1_call ?_; (refine sc_c (by rfl) (C_call (by rfl) (by infer_instance) (by rfl) (by rfl) (Tr.ent (Ent.pick (by focus ((repeat (first | exact Rem.here | apply Rem.there)); done)) (Ent.refl _)) (devs_generation i vl i hlt))) (by rfl) ?_; rintro _ _ ⟨rfl, rfl⟩))
    | (refine s1_indexAddr ?_; first | refine sc_r (R_indexAddr (by rfl) (by rfl) (by omega)) (by rfl) ?_ | refine sc_r (R_indexAddr_arr (by rfl) (by rfl) (by omega)) (by rfl) ?_)
    | (refine s1_store ?_; (refine sc_w (by rfl) (W_store1 (by rfl) (by rfl) (by infer_instance) (by rfl) (by assumption) (by rfl)) (by rfl) ?_; rintro _ _ ⟨rfl, rfl⟩))
    | (refine s1_any ?_; refine sc_r (R_nilCheck (by rfl)) (by rfl) ?_)
    | refine swl_nil ?_
    | refine sx_next ?_
    | refine sw_seq ?_
    | refine sw_region ?_
    | refine sw_block ?_
    | refine sx_block_normal ?_
    | refine sw_cond_pos (by rfl) (by first | assumption | omega) ?_
    | refine sw_skip ?_
    | refine swh_lt (by rfl) (fun _ _ => wanted_none) ?_
    | refine swh_hv (by rfl) (fun _ _ => wanted_none) ?_
    | refine swh_nil ?_
    | (apply And.intro; focus ((repeat (first | exact Ent.refl _ | exact Ent.nil | (apply Ent.pick; focus ((repeat (first | exact Rem.here | apply Rem.there)); done)) | apply Ent.drop)); done))
    | (refine sw_region_draw (devsP vl :: F) [(0, true), (1, true), (2, true), (3, true), (5, true), (6, true), (4, false), (7, true), (8, false)] follows ?_ ?_ ?_ ?_; (focus rfl); (focus (decide +kernel)); (focus ((repeat (first | exact Ent.refl _ | exact Ent.nil | (apply Ent.pick; focus ((repeat (first | exact Rem.here | apply Rem.there)); done)) | apply Ent.drop)); done)))
    | fail)
    --DBG
    refine sx_back (i + 1) (by omega) (by omega) (subE.cons rfl (subE.cons rfl (subE.cons rfl (subE.cons rfl subE.nil)))) ?_
    rw [← hgs, ← gens_set]
    (repeat (first | exact Ent.refl _ | exact Ent.nil | (apply Ent.pick; focus ((repeat (first | exact Rem.here | apply Rem.there)); done)) | apply Ent.drop))
  · obtain rfl : i = vl.length := by omega
    repeat' (first
    | refine swl_op ?_
    | (refine s1_move ?_; refine sc_r (R_move (by rfl)) (by rfl) ?_)
    | (refine s1_assign ?_; refine sc_r (R_assign (by rfl)) (by rfl) ?_)
    | (refine s1_bin ?_; refine sc_r (R_lss (by rfl) (by rfl)) (by rfl) ?_)
    | refine swl_nil ?_
    | refine sx_next ?_
    | refine sw_seq ?_
    | refine sw_region ?_
    | refine sx_past_exit ?_
    | refine sx_block_here ?_
    | refine sw_cond_neg (by rfl) (by first | assumption | omega) ?_
    | refine sw_ret ?_
    | refine sw_exit ?_
    | fail)
    refine sx_ret_of (res2 rfl (ResOne.tmp rfl) (ResOne.tmp rfl)) _ ⟨_, rfl, rfl⟩ (Ent.trans ?_ (med_close ⟨openG_len hi (by omega), hn1, hm, ?_⟩ (sv := .slice pw (vl.map Prod.fst).length cw)))
    · (repeat (first | exact Ent.refl _ | exact Ent.nil | (apply Ent.pick; focus ((repeat (first | exact Rem.here | apply Rem.there)); done)) | apply Ent.drop))
    · intro x hx
      rcases List.mem_append.1 hx with hx | hx
      · obtain ⟨k, hk, rfl⟩ := List.mem_mapIdx.1 hx
        exact genLab_bd _ _
      · rw [(List.mem_replicate.1 hx).2]; omega
end Go.Proofs.YtcpfehldofmipaaDoor
