/-
  Media: Gen, Geo, Blank; what a label says.
-/
import Derived.Test.YtcpfehldofmipaaDoorMed3
namespace Go.Proofs.YtcpfehldofmipaaDoor
open Go Go.SL Go.Proofs

theorem gens_get {g : Geo} {d : Nat} {sv : Value} {gens : List Int} {i : Nat} (h : i < gens.length) : (medCells g d sv gens)[0 + 6 + i * 1]? = some (.int .i64 (gens.getD i 0)) := by
  rw [show 0 + 6 + i * 1 = i + 6 by omega]
  simp [medCells, List.getD, h]
theorem gens_set {g : Geo} {d : Nat} {sv : Value} {gens : List Int} {i : Nat} {z : Int} : (medCells g d sv gens).setIfInBounds (0 + 6 + i * 1) (.int .i64 z) = medCells g d sv (gens.set i z) := by
  rw [show 0 + 6 + i * 1 = i + 6 by omega]
  simp [medCells, List.map_set]

def genF (n : Nat) (gens : List Int) (v : Int) : Int := if 0 ≤ v ∧ v < (n : Int) then gens.getD v.toNat 0 else -1
theorem medium_Gen (m d : Nat) (g : Geo) (gens : List Int) (vs : List Nat) (v : Int) {F : List HP} :
    Tr Tryd.prog 23 [.pointer (some ⟨m, 0, none⟩), .int .i64 v].toArray (medP m d vs g gens :: F) (fun r L' => r = .int .i64 (genF vs.length gens v) ∧ L' = medP m d vs g gens :: F) := by
  refine Tr.open_med fun pv cv h1 h2 => ?_
  refine tr_enter Tryd.func23 rfl Tryd.ntmps23 rfl fun w0 => ?_
  unfold genF
  have hg := mayG_is h2.may
  have h8 := h2.g8
  have hnv := h2.nv
  by_cases hv : 0 ≤ v ∧ v < (vs.length : Int)
  · have hv2 : decide (0 ≤ v ∧ v < (vs.length : Int)) = true := by simpa using hv
    rw [if_pos hv]
    have he := gens_get (g := g) (d := d) (sv := .slice pv vs.length cv) (gens := gens) (i := v.toNat) (by omega)
    repeat' (first
    | refine swl_op ?_
    | (refine s1_move ?_; refine sc_r (R_move (by rfl)) (by rfl) ?_)
    | (refine s1_load ?_; refine sc_r (L_load (by rfl) (by infer_instance) (by assumption)) (by rfl) ?_)
    | (refine s1_fieldAddr ?_; refine sc_r (R_fieldAddr (by rfl)) (by rfl) ?_)
    | (refine s1_assign ?_; refine sc_r (R_assign (by rfl)) (by rfl) ?_)
    | (refine s1_call ?_; (refine sc_c (by rfl) (C_call (by rfl) (by infer_instance) (by rfl) (by rfl) (medium_is' m v _ (by infer_instance) hv2)) (by rfl) ?_; rintro _ _ ⟨rfl, rfl⟩))
    | (refine s1_indexAddr ?_; refine sc_r (R_indexAddr_arr (by rfl) (by rfl) (by omega)) (by rfl) ?_)
    | (refine s1_any ?_; first | refine sc_r (R_not (by rfl)) (by rfl) ?_ | refine sc_r (R_nilCheck (by rfl)) (by rfl) ?_)
    | refine swl_nil ?_
    | refine sx_next ?_
    | refine sw_seq ?_
    | refine sw_region ?_
    | refine sw_cond_false (by rfl) ?_
    | refine sw_ret ?_
    | refine sw_skip ?_
    | fail)
    refine sx_ret_of (res1 rfl (ResOne.tmp rfl)) _ ⟨rfl, rfl⟩ (Ent.trans ?_ (med_close h2 (sv := .slice pv vs.length cv)))
    (repeat (first | exact Ent.refl _ | exact Ent.nil | (apply Ent.pick; focus ((repeat (first | exact Rem.here | apply Rem.there)); done)) | apply Ent.drop))
  · have hv2 : decide (0 ≤ v ∧ v < (vs.length : Int)) = false := by simpa using hv
    rw [if_neg hv]
    repeat' (first
    | refine swl_op ?_
    | (refine s1_move ?_; refine sc_r (R_move (by rfl)) (by rfl) ?_)
    | (refine s1_assign ?_; refine sc_r (R_assign (by rfl)) (by rfl) ?_)
    | (refine s1_call ?_; (refine sc_c (by rfl) (C_call (by rfl) (by infer_instance) (by rfl) (by rfl) (medium_is' m v _ (by infer_instance) hv2)) (by rfl) ?_; rintro _ _ ⟨rfl, rfl⟩))
    | (refine s1_any ?_; refine sc_r (R_not (by rfl)) (by rfl) ?_)
    | refine swl_nil ?_
    | refine sx_next ?_
    | refine sw_seq ?_
    | refine sw_region ?_
    | refine sx_past_ret ?_
    | refine sw_cond_true (by rfl) ?_
    | refine sw_ret ?_
    | fail)
    refine sx_ret_of (res1 rfl (ResOne.tmp rfl)) _ ⟨rfl, rfl⟩ (Ent.trans ?_ (med_close h2 (sv := .slice pv vs.length cv)))
    (repeat (first | exact Ent.refl _ | exact Ent.nil | (apply Ent.pick; focus ((repeat (first | exact Rem.here | apply Rem.there)); done)) | apply Ent.drop))

def blankR (s : DevS) : Nat → Int × Int
  | 0 => (0, 0)
  | k + 1 => if rdE s ((k + 1 : Nat) : Int) = 0 then (if clearF (rdB s ((k + 1 : Nat) : Int)) 0 then blankR s k else ((k : Int) / 16 + 1, 0)) else (0, rdE s ((k + 1 : Nat) : Int))
def blMR (vl : List (Nat × DevS)) (v : Int) : Int × Int := if h : 0 ≤ v ∧ v < (vl.length : Int) then blankR (vl[v.toNat]'(by omega)).2 ((vl[v.toNat]'(by omega)).2.blocks.length - 1) else (0, 4)
set_option maxHeartbeats 1000000 in
theorem medium_Blank (m d : Nat) (g : Geo) (gens : List Int) (vl : List (Nat × DevS)) (v : Int) (h0 : ∀ x ∈ vl, x.2.blocks.length ≤ 8192 ∧ 0 < x.2.blocks.length) {F : List HP} :
    Tr Tryd.prog 24 [.pointer (some ⟨m, 0, none⟩), .int .i64 v].toArray (medP m d (vl.map Prod.fst) g gens :: devsP vl :: F)
      (fun r L' => r = .tuple #[.int .i64 (blMR vl v).1, .int .i64 (blMR vl v).2] ∧ L' = medP m d (vl.map Prod.fst) g gens :: devsP vl :: F) := by
  refine Tr.open_med fun pv cv h1 h2 => ?_
  refine tr_enter Tryd.func24 rfl Tryd.ntmps24 rfl fun w0 => ?_
  unfold blMR
  by_cases hv : 0 ≤ v ∧ v < (vl.length : Int)
  · have hv2 : decide (0 ≤ v ∧ v < ((vl.map Prod.fst).length : Int)) = true := by rw [List.length_map]; simpa using hv
    rw [dif_pos hv]
    have hi : v.toNat < vl.length := by omega
    have hll : (vl.map Prod.fst).length = vl.length := by simp
    obtain ⟨b1, o1, rfl⟩ := h1.ptr (by omega)
    have he1 : ((vl.map Prod.fst).map ptrc).getD v.toNat #[] = #[.pointer (some ⟨vl[v.toNat].1, 0, none⟩)] := by rw [ptr_get (by omega)]; simp
    have hbl := h0 vl[v.toNat] (List.getElem_mem hi)
    have hsame := fun (F : List HP) => devs_same vl v.toNat hi (F := F)
    repeat' (first
    | refine swl_op ?_
    | (refine s1_move ?_; refine sc_r (R_move (by rfl)) (by rfl) ?_)
    | (refine s1_load ?_; first | refine sc_r (L_load' (by rfl) (by infer_instance) (by rfl)) (by rfl) ?_ | refine sc_r (L_load_el1 (by rfl) (by infer_instance) (by omega) (by first | assumption | rfl)) (by rfl) ?_)
    | (refine s1_fieldAddr ?_; refine sc_r (R_fieldAddr (by rfl)) (by rfl) ?_)
    | (refine s1_assign ?_; refine sc_r (R_assign (by rfl)) (by rfl) ?_)
    | (refine s1_bin ?_; refine sc_r (R_sub64 (by rfl) (by rfl) (by omega)) (by rfl) ?_)
    | (refine s1_call ?_; first | (refine sc_c (by rfl) (C_call (by rfl) (by infer_instance) (by rfl) (by rfl) (medium_is' m v _ (by infer_instance) hv2)) (by rfl) ?_; rintro _ _ ⟨rfl, rfl⟩) | (refine sc_c (by rfl) (C_call (by rfl) (by infer_instance) (by rfl) (by rfl) (Tr.ent (Ent.trans (Ent.pick (by focus ((repeat (first | exact Rem.here | apply Rem.there)); done)) (Ent.refl _)) (devs_cut vl v.toNat hi)) (dev_Size vl[v.toNat].1 vl[v.toNat].2))) (by rfl) ?_; rintro _ _ ⟨rfl, rfl⟩))
    | (refine s1_indexAddr ?_; refine sc_r (R_indexAddr (by rfl) (by rfl) (by omega)) (by rfl) ?_)
    | (refine s1_any ?_; first | refine sc_r (R_not (by rfl)) (by rfl) ?_ | refine sc_r (R_nilCheck (by rfl)) (by rfl) ?_)
    | refine swl_nil ?_
    | refine sx_next ?_
    | refine sw_seq ?_
    | refine sw_region ?_
    | refine sw_block ?_
    | refine sw_cond_false (by rfl) ?_
    | refine sw_skip ?_
    | fail)
    generalize hA : vl[v.toNat].1 = A at *
    generalize hS : vl[v.toNat].2 = S at *
    refine sw_loop (γ := Nat) (fun k => k) (fun k => [(6, .pointer (some ⟨A, 0, none⟩)), (7, .int .i64 k)]) (fun _ => devP A S :: devsP (vl.take v.toNat) :: devsP (vl.drop (v.toNat + 1)) :: pt m (.cells (medCells g d (.slice (some ⟨b1, o1, none⟩) (vl.map Prod.fst).length cv) gens) 97) :: vec 26 1 ((vl.map Prod.fst).map ptrc) (.slice (some ⟨b1, o1, none⟩) (vl.map Prod.fst).length cv) :: F)
      (fun k => k ≤ 8192 ∧ blankR S (S.blocks.length - 1) = blankR S k) (S.blocks.length - 1) ⟨by omega, rfl⟩ (subE.cons rfl (subE.cons (by refine congrArg (fun z => some (Value.int .i64 z)) ?_; omega) subE.nil)) (by (repeat (first | exact Ent.refl _ | exact Ent.nil | (apply Ent.pick; focus ((repeat (first | exact Rem.here | apply Rem.there)); done)) | apply Ent.drop))) ?_
    intro k ⟨hk, hbk⟩
    have hfin : ∀ (X : List HP), Ent X (pt m (.cells (medCells g d (.slice (some ⟨b1, o1, none⟩) (vl.map Prod.fst).length cv) gens) 97) :: vec 26 1 ((vl.map Prod.fst).map ptrc) (.slice (some ⟨b1, o1, none⟩) (vl.map Prod.fst).length cv) :: devP A S :: devsP (vl.take v.toNat) :: devsP (vl.drop (v.toNat + 1)) :: F) → Ent X (medP m d (vl.map Prod.fst) g gens :: devsP vl :: F) := fun X h =>
      (h.trans (med_close h2)).trans (Ent.cons (hsame F))
    rcases k with _ | k
    · rw [hbk]
      repeat' (first
    | refine swl_op ?_
    | (refine s1_move ?_; refine sc_r (R_move (by rfl)) (by rfl) ?_)
    | (refine s1_assign ?_; refine sc_r (R_assign (by rfl)) (by rfl) ?_)
    | (refine s1_bin ?_; refine sc_r (R_geq (by rfl) (by rfl)) (by rfl) ?_)
    | refine swl_nil ?_
    | refine sx_next ?_
    | refine sw_seq ?_
    | refine sw_region ?_
    | refine sx_past_exit ?_
    | refine sx_block_here ?_
    | refine sw_cond_false (by rfl) ?_
    | refine sw_ret ?_
    | refine sw_exit ?_
    | fail)
      exact sx_ret_of (res2 rfl (ResOne.tmp rfl) (ResOne.tmp rfl)) _ ⟨rfl, rfl⟩ (hfin _ (by (repeat (first | exact Ent.refl _ | exact Ent.nil | (apply Ent.pick; focus ((repeat (first | exact Rem.here | apply Rem.there)); done)) | apply Ent.drop))))
    · have hR := fun (L : List HP) => dev_Read A S ((k + 1 : Nat) : Int) (L := L)
      rw [hbk]
      simp only [blankR]
      by_cases hr : rdE S ((k + 1 : Nat) : Int) = 0
      · rw [if_pos hr]
        rw [hr] at hR
        cases hc : clearF (rdB S ((k + 1 : Nat) : Int)) 0
        · rw [if_neg (by simp)]
          repeat' (first
    | refine swl_op ?_
    | (refine s1_move ?_; refine sc_r (R_move (by rfl)) (by rfl) ?_)
    | (refine s1_assign ?_; refine sc_r (R_assign (by rfl)) (by rfl) ?_)
    | (refine s1_bin ?_; first | refine sc_r (R_add64 (by rfl) (by rfl) (by omega)) (by rfl) ?_ | refine sc_r (R_geq (by rfl) (by rfl)) (by rfl) ?_ | refine sc_r (R_neq (by rfl) (by rfl)) (by rfl) ?_ | refine sc_r (R_sub64 (by rfl) (by rfl) (by omega)) (by rfl) ?_ | refine sc_r (R_quo64 (by rfl) (by rfl) (by omega)) (by rfl) ?_)
    | (refine s1_call ?_; first | (refine sc_c (by rfl) (C_call (by rfl) (by infer_instance) (by rfl) (by rfl) (Tr.ent (Ent.pick (by focus ((repeat (first | exact Rem.here | apply Rem.there)); done)) (Ent.refl _)) (hR _))) (by rfl) ?_; rintro _ _ ⟨sl, rfl, rfl⟩; refine swl_know (fun h H => vec_fact H) ?_; rintro ⟨pc, cc, rfl, hf⟩; rw [List.length_map] at hf ⊢) | (refine sc_c (by rfl) (C_call (by rfl) (by infer_instance) (by rfl) (by rfl) (pack_Clear' _ _ _ hc (by infer_instance))) (by rfl) ?_; rintro _ _ ⟨rfl, rfl⟩))
    | (refine s1_any ?_; first | refine sc_r (R_not (by rfl)) (by rfl) ?_ | refine sc_r (R_extract (by rfl) (by rfl)) (by rfl) ?_)
    | refine swl_nil ?_
    | refine sx_next ?_
    | refine sw_seq ?_
    | refine sw_region ?_
    | refine sw_block ?_
    | refine sx_past_ret ?_
    | refine sx_block_ret ?_
    | refine sw_cond_true (by rfl) ?_
    | refine sw_cond_false (by rfl) ?_
    | refine sw_cond_pos (by rfl) (by first | assumption | omega) ?_
    | refine sw_ret ?_
    | refine sw_skip ?_
    | fail)
          refine sx_ret_of (res2 rfl (ResOne.tmp rfl) (ResOne.tmp rfl)) _ ⟨?_, rfl⟩ (hfin _ (by (repeat (first | exact Ent.refl _ | exact Ent.nil | (apply Ent.pick; focus ((repeat (first | exact Rem.here | apply Rem.there)); done)) | apply Ent.drop))))
          rw [show ((k + 1 : Nat) : Int) - 1 = (k : Int) by omega]
        · rw [if_pos rfl]
          repeat' (first
    | refine swl_op ?_
    | (refine s1_move ?_; refine sc_r (R_move (by rfl)) (by rfl) ?_)
    | (refine s1_assign ?_; refine sc_r (R_assign (by rfl)) (by rfl) ?_)
    | (refine s1_bin ?_; first | refine sc_r (R_geq (by rfl) (by rfl)) (by rfl) ?_ | refine sc_r (R_neq (by rfl) (by rfl)) (by rfl) ?_ | refine sc_r (R_sub64 (by rfl) (by rfl) (by omega)) (by rfl) ?_)
    | (refine s1_call ?_; first | (refine sc_c (by rfl) (C_call (by rfl) (by infer_instance) (by rfl) (by rfl) (Tr.ent (Ent.pick (by focus ((repeat (first | exact Rem.here | apply Rem.there)); done)) (Ent.refl _)) (hR _))) (by rfl) ?_; rintro _ _ ⟨sl, rfl, rfl⟩; refine swl_know (fun h H => vec_fact H) ?_; rintro ⟨pc, cc, rfl, hf⟩; rw [List.length_map] at hf ⊢) | (refine sc_c (by rfl) (C_call (by rfl) (by infer_instance) (by rfl) (by rfl) (pack_Clear' _ _ _ hc (by infer_instance))) (by rfl) ?_; rintro _ _ ⟨rfl, rfl⟩))
    | (refine s1_any ?_; first | refine sc_r (R_not (by rfl)) (by rfl) ?_ | refine sc_r (R_extract (by rfl) (by rfl)) (by rfl) ?_)
    | refine swl_nil ?_
    | refine sx_next ?_
    | refine sw_seq ?_
    | refine sw_region ?_
    | refine sw_block ?_
    | refine sx_block_normal ?_
    | refine sw_cond_false (by rfl) ?_
    | refine sw_cond_pos (by rfl) (by first | assumption | omega) ?_
    | refine sw_skip ?_
    | fail)
          refine sx_back k (by omega) ⟨by omega, rfl⟩ (subE.cons rfl (subE.cons (by refine congrArg (fun z => some (Value.int .i64 z)) ?_; omega) subE.nil)) (by (repeat (first | exact Ent.refl _ | exact Ent.nil | (apply Ent.pick; focus ((repeat (first | exact Rem.here | apply Rem.there)); done)) | apply Ent.drop)))
      · rw [if_neg hr]
        repeat' (first
    | refine swl_op ?_
    | (refine s1_move ?_; refine sc_r (R_move (by rfl)) (by rfl) ?_)
    | (refine s1_assign ?_; refine sc_r (R_assign (by rfl)) (by rfl) ?_)
    | (refine s1_bin ?_; first | refine sc_r (R_geq (by rfl) (by rfl)) (by rfl) ?_ | refine sc_r (R_neq (by rfl) (by rfl)) (by rfl) ?_)
    | (refine s1_call ?_; (refine sc_c (by rfl) (C_call (by rfl) (by infer_instance) (by rfl) (by rfl) (Tr.ent (Ent.pick (by focus ((repeat (first | exact Rem.here | apply Rem.there)); done)) (Ent.refl _)) (hR _))) (by rfl) ?_; rintro _ _ ⟨sl, rfl, rfl⟩; refine swl_know (fun h H => vec_fact H) ?_; rintro ⟨pc, cc, rfl, hf⟩; rw [List.length_map] at hf ⊢))
    | (refine s1_any ?_; refine sc_r (R_extract (by rfl) (by rfl)) (by rfl) ?_)
    | refine swl_nil ?_
    | refine sx_next ?_
    | refine sw_seq ?_
    | refine sw_region ?_
    | refine sw_block ?_
    | refine sx_past_ret ?_
    | refine sx_block_ret ?_
    | refine sw_cond_pos (by rfl) (by first | assumption | omega) ?_
    | refine sw_cond_nneg (by rfl) (by first | assumption | omega) ?_
    | refine sw_ret ?_
    | refine sw_skip ?_
    | fail)
        exact sx_ret_of (res2 rfl (ResOne.tmp rfl) (ResOne.tmp rfl)) _ ⟨rfl, rfl⟩ (hfin _ (by (repeat (first | exact Ent.refl _ | exact Ent.nil | (apply Ent.pick; focus ((repeat (first | exact Rem.here | apply Rem.there)); done)) | apply Ent.drop))))
  · have hv2 : decide (0 ≤ v ∧ v < ((vl.map Prod.fst).length : Int)) = false := by rw [List.length_map]; simpa using hv
    rw [dif_neg hv]
    repeat' (first
    | refine swl_op ?_
    | (refine s1_move ?_; refine sc_r (R_move (by rfl)) (by rfl) ?_)
    | (refine s1_assign ?_; refine sc_r (R_assign (by rfl)) (by rfl) ?_)
    | (refine s1_call ?_; (refine sc_c (by rfl) (C_call (by rfl) (by infer_instance) (by rfl) (by rfl) (medium_is' m v _ (by infer_instance) hv2)) (by rfl) ?_; rintro _ _ ⟨rfl, rfl⟩))
    | (refine s1_any ?_; refine sc_r (R_not (by rfl)) (by rfl) ?_)
    | refine swl_nil ?_
    | refine sx_next ?_
    | refine sw_seq ?_
    | refine sw_region ?_
    | refine sx_past_ret ?_
    | refine sw_cond_true (by rfl) ?_
    | refine sw_ret ?_
    | fail)
    refine sx_ret_of (res2 rfl (ResOne.tmp rfl) (ResOne.tmp rfl)) _ ⟨rfl, rfl⟩ (Ent.trans ?_ (med_close h2 (sv := .slice pv (vl.map Prod.fst).length cv)))
    (repeat (first | exact Ent.refl _ | exact Ent.nil | (apply Ent.pick; focus ((repeat (first | exact Rem.here | apply Rem.there)); done)) | apply Ent.drop))
end Go.Proofs.YtcpfehldofmipaaDoor
