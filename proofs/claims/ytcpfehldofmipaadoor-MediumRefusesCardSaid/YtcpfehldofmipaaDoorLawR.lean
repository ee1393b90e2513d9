/-
  MediumRefuses, walked.
-/
import Derived.Test.YtcpfehldofmipaaDoorAwake21b
import Derived.Test.YtcpfehldofmipaaDoorPlain2
namespace Go.Proofs.YtcpfehldofmipaaDoor
open Go Go.SL Go.Proofs

def refuse (g : Geo) (D V S : Int) : Array Value := #[.int .i64 g.disk, .int .i64 g.lines, .int .i64 g.vols, .int .i64 g.segs, .int .u8 D, .int .u8 V, .int .u8 S]

theorem fits_new {g : Geo} {N M k : Nat} {vl : List (Nat × DevS)} (h : vl.map Prod.snd = List.replicate k (newDev M)) : fitsF g (newDev N) vl = decide (((N : Int) = 16 + g.disk * 16 ∧ (vl.length : Int) = g.vols) ∧ (vl.length = 0 ∨ (M : Int) = 1 + g.segs * 16)) := by
  have hk : vl.length = k := by have := congrArg List.length h; simpa using this
  have hall : (vl.all fun x => decide ((x.2.blocks.length : Int) = 1 + g.segs * 16)) = decide (vl.length = 0 ∨ (M : Int) = 1 + g.segs * 16) := by
    rw [Bool.eq_iff_iff]
    simp only [List.all_eq_true, decide_eq_true_eq]
    constructor
    · intro ha
      rcases vl with _ | ⟨x, r⟩
      · exact .inl rfl
      · right
        have h1 := ha x (by simp)
        have h2 : x.2 = newDev M := by
          rw [List.map_cons] at h
          have := List.eq_of_mem_replicate (h ▸ List.mem_cons_self : x.2 ∈ List.replicate k (newDev M))
          exact this
        rw [h2] at h1
        simpa [newDev] using h1
    · intro ha x hx
      have h2 : x.2 = newDev M := List.eq_of_mem_replicate (h ▸ List.mem_map_of_mem hx)
      rw [h2]
      rcases ha with ha | ha
      · rw [List.eq_nil_of_length_eq_zero ha] at hx; cases hx
      · simpa [newDev] using ha
  unfold fitsF
  rw [hall, show (newDev N).blocks.length = N by simp [newDev]]
  simp only [Bool.decide_and]

theorem rd_new {N : Nat} (h : 0 < N) : rdE (newDev N) 0 = 0 ∧ rdB (newDev N) 0 = zeros128 := by
  have hi : thereB (newDev N) 0 = true := by simp [thereB, newDev]; omega
  refine ⟨(newDev_well N).rdE hi, ?_⟩
  rw [(newDev_well N).rdB hi]
  unfold curB
  rw [show lastAt (newDev N).pend 0 = none from rfl]
  simp [newDev, List.getD, h]
theorem rd_head {N : Nat} (h : 0 < N) (b : List Int) : rdE (headD N b) 0 = 0 ∧ rdB (headD N b) 0 = b := by
  have hi : thereB (headD N b) 0 = true := by simp [thereB, headD_len]; omega
  have hw : Well (headD N b) := ofB_well _
  refine ⟨hw.rdE hi, ?_⟩
  rw [hw.rdB hi]
  unfold curB
  rw [show lastAt (headD N b).pend 0 = none from rfl]
  simp [headD, ofB, List.getD, h]
theorem open_new {N : Nat} (h : 0 < N) (vl : List (Nat × DevS)) : openE (newDev N) vl = if N < 16 then 1 else 5 := by
  unfold openE
  rw [show (newDev N).blocks.length = N by simp [newDev]]
  split
  · rfl
  · rw [if_pos (rd_new h).1, (rd_new h).2, if_neg (by rw [readSuper_zeros]; decide), readSuper_zeros]
theorem open_head {N : Nat} {g : Geo} {vl : List (Nat × DevS)} (h : 16 ≤ N) (hm : mayG g = true) (hf : fitsF g (headD N (superF g)) vl = true) : openE (headD N (superF g)) vl = 0 ∧ (readSuperF (rdB (headD N (superF g)) 0)).1 = g := by
  have hr := rd_head (show 0 < N by omega) (superF g)
  unfold openE
  rw [headD_len, if_neg (by omega), if_pos hr.1, hr.2, readSuper_super hm]
  simp [hf]

theorem refuse_ok {g : Geo} {N M : Nat} {vl : List (Nat × DevS)} (hm : mayG g = true) (hf : fitsF g (newDev N) vl = true) (hvl : vl.map Prod.snd = List.replicate vl.length (newDev M)) (hM : 0 < M) : ∃ (SD : DevS) (VL : List (Nat × DevS)) (G : List Int),
    (∀ (d : Nat) (F : List HP) (_ : HalvesC F) (pv : Option Addr) (nv cv : Nat) (_ : SlC F pv 1 nv cv ((vl.map Prod.fst).map ptrc)), Tr Tryd.prog 11 [.agg g.cells, .pointer (some ⟨d, 0, none⟩), .slice pv nv cv].toArray (devP d (newDev N) :: devsP vl :: F)
      (fun v L' => ∃ m, v = .tuple #[.pointer (some ⟨m, 0, none⟩), .int .i64 0] ∧ L' = medP m d (vl.map Prod.fst) g G :: devP d SD :: devsP VL :: F)) ∧
    (∀ (d : Nat) (F : List HP) (_ : HalvesC F) (pv : Option Addr) (nv cv : Nat) (_ : SlC F pv 1 nv cv ((vl.map Prod.fst).map ptrc)), Tr Tryd.prog 12 [.pointer (some ⟨d, 0, none⟩), .slice pv nv cv].toArray (devP d SD :: devsP VL :: F)
      (fun v L' => ∃ m, v = .tuple #[.pointer (some ⟨m, 0, none⟩), .int .i64 0] ∧ L' = devP d SD :: devsP VL :: F)) := by
  have hg := mayG_is hm
  have hfn := fits_new (g := g) (N := N) hvl
  rw [hf] at hfn
  have hfn' := of_decide_eq_true hfn.symm
  have hN : (N : Int) = 16 + g.disk * 16 := hfn'.1.1
  have hnv : (vl.length : Int) = g.vols := hfn'.1.2
  have e0 := ewf_newDev (show 0 < N by omega) (superF_len hm)
  have hv2 : ∀ i (h : i < vl.length), vl[i].2 = newDev M := fun i h => List.eq_of_mem_replicate (hvl ▸ List.mem_map_of_mem (List.getElem_mem h))
  have hlm : ∀ i, i < vl.length → labMay (i : Int) 0 = true := fun i h => by simp [labMay]; omega
  have hvs : ∀ i (h : i < vl.length), ewfE vl[i].2 (labelF i 0) = 0 := fun i h => by rw [hv2 i h]; exact (ewf_newDev hM (labelF_len (hlm i h))).1
  have hfm : fitsF g (headD N (superF g)) (fmV vl vl.length) = true := by
    have hfl : (fmV vl vl.length).length = vl.length := fmV_len _ _
    have hall : ((fmV vl vl.length).all fun x => decide ((x.2.blocks.length : Int) = 1 + g.segs * 16)) = true := by
      rw [List.all_eq_true]
      intro x hx
      obtain ⟨i, hi, rfl⟩ := List.mem_iff_getElem.1 hx
      rw [fmV_len] at hi
      have h1 : (fmV vl vl.length)[i]'(by rw [fmV_len]; exact hi) = (vl[i].1, ewfS vl[i].2 (labelF i 0)) := by simp [fmV, hi]
      rw [h1]
      dsimp only
      rw [hv2 i hi, (ewf_newDev hM (labelF_len (hlm i hi))).2, headD_len]
      rcases hfn'.2 with h0 | h0
      · omega
      · simpa using h0
    unfold fitsF
    rw [hall, headD_len, hfl, Bool.and_true]
    exact decide_eq_true ⟨hN, hnv⟩
  have hop := open_head (vl := fmV vl vl.length) (show 16 ≤ N by omega) hm hfm
  refine ⟨headD N (superF g), fmV vl vl.length, List.replicate vl.length 0 ++ List.replicate (8 - vl.length) (-1), fun d F hF pv nv cv hv => ?_, fun d F hF pv nv cv hv => ?_⟩
  · have := medium_Format g d (newDev N) vl hm hf e0.1 hvs hv
    rw [e0.2] at this
    exact this
  · have := medium_Open d (headD N (superF g)) (fmV vl vl.length) hop.1 (pv := pv) (nv := nv) (cv := cv) (F := F) (by rw [fmV_fst]; exact hv)
    exact this.weaken fun v L' ⟨m, h1, h2⟩ => ⟨_, by rw [h2]; exact Ent.drop (Ent.refl _), m, h1, rfl⟩

set_option maxHeartbeats 8000000 in
theorem law_MediumRefuses (g : Geo) (D V S : Int) (hD : 0 ≤ D ∧ D ≤ 255) (hV : 0 ≤ V ∧ V ≤ 255) (hS : 0 ≤ S ∧ S ≤ 255) {L : List HP} [HalvesC L] :
    Tr Tryd.prog 3 [.agg (refuse g D V S)].toArray L (fun v L' => v = .bool true ∧ L = L') := by
  refine tr_enter Tryd.func3 rfl Tryd.ntmps3 rfl fun w0 => ?_
  unfold refuse
  repeat' (first
    | (refine s1_load ?_; refine sc_r (L_load_part (by rfl) (by infer_instance) (by rfl) (by rfl)) (by rfl) ?_)
    | refine swl_op ?_
    | (refine s1_move ?_; refine sc_r (R_move (by rfl)) (by rfl) ?_)
    | (refine s1_load ?_; refine sc_r (L_load' (by rfl) (by infer_instance) (by rfl)) (by rfl) ?_)
    | (refine s1_fieldAddr ?_; refine sc_r (R_fieldAddr (by rfl)) (by rfl) ?_)
    | (refine s1_assign ?_; refine sc_r (R_assign (by rfl)) (by rfl) ?_)
    | (refine s1_bin ?_; refine sc_r (R_add64 (by rfl) (by rfl) (by omega)) (by rfl) ?_)
    | (refine s1_call ?_; (refine sc_c (by rfl) (C_call (by rfl) (by infer_instance) (by rfl) (by rfl) (dev_New' _ (by omega))) (by rfl) ?_; rintro _ _ ⟨d, rfl, rfl⟩))
    | (refine s1_store ?_; (refine sc_w (by rfl) (W_storeAll (by rfl) (by rfl) (by infer_instance) (by rfl) (by rfl) (by rfl)) (by rfl) ?_; rintro _ _ ⟨rfl, rfl⟩))
    | (refine s1_alloc ?_; (refine sc_w (by rfl) W_allocA (by rfl) ?_; rintro _ _ ⟨_, rfl, rfl⟩))
    | (refine s1_box ?_; (refine sc_w (by rfl) (W_boxA (by rfl)) (by rfl) ?_; rintro _ _ ⟨_, rfl, rfl⟩))
    | (refine s1_conv ?_; refine sc_r (R_conv64 (by rfl) (by omega)) (by rfl) ?_)
    | (refine s1_any ?_; refine sc_r (R_extract (by rfl) (by rfl)) (by rfl) ?_)
    | refine swl_nil ?_
    | refine sx_next ?_
    | refine sw_seq ?_
    | refine sw_region ?_
    | refine sw_block ?_
    | refine swh_lt (by rfl) (fun _ _ => wanted_none) ?_
    | refine swh_hv (by rfl) (fun _ _ => wanted_none) ?_
    | refine swh_nil ?_
    | (apply And.intro; focus ((repeat (first | exact Ent.refl _ | exact Ent.nil | (apply Ent.pick; focus ((repeat (first | exact Rem.here | apply Rem.there)); done)) | apply Ent.drop)); done))
    | (refine sw_draw [(0, true), (1, true), (2, true), (3, true), (4, true), (5, true), (6, true), (7, true), (8, false), (9, false), (10, true), (11, true), (12, true)] follows ?_ ?_ ?_; (focus rfl); (focus (decide +kernel)))
    | fail)
  rename_i b1 b3
  refine sw_ent (Ent.vec_nil (e := 26) (k := 1)) ?_
  refine sw_ent devs_nil ?_
  have hV5 : 0 ≤ V % 5 ∧ V % 5 ≤ 4 := by omega
  have hS70 : 0 ≤ S % 70 ∧ S % 70 ≤ 69 := by omega
  refine sw_loop (γ := Nat × List (Nat × DevS) × Value) (fun q => (V % 5).toNat - q.1) (fun q => [(3, .pointer (some ⟨b3, 0, none⟩)), (5, .int .u8 V), (6, .int .u8 S), (7, .int .i64 (D + 1)), (8, .pointer (some ⟨d, 0, none⟩)), (9, .int .i64 0), (10, q.2.2), (11, .int .i64 q.1)])
    (fun q => devP d (newDev (D + 1).toNat) :: devsP q.2.1 :: vec 26 1 ((q.2.1.map Prod.fst).map ptrc) q.2.2 :: pt b3 (.cells #[.int .i64 g.disk, .int .i64 g.lines, .int .i64 g.vols, .int .i64 g.segs] 23) :: L)
    (fun q => q.1 ≤ (V % 5).toNat ∧ q.2.1.map Prod.snd = List.replicate q.1 (newDev (1 + S % 70).toNat)) (0, [], .slice none 0 0) ⟨by simp, rfl⟩
    (subE.cons rfl (subE.cons rfl (subE.cons rfl (subE.cons rfl (subE.cons rfl (subE.cons rfl (subE.cons rfl (subE.cons rfl subE.nil)))))))) (by (repeat (first | exact Ent.refl _ | exact Ent.nil | (apply Ent.pick; focus ((repeat (first | exact Rem.here | apply Rem.there)); done)) | apply Ent.drop))) ?_
  rintro ⟨i, vl, sl⟩ ⟨hi, hvl⟩
  dsimp only at hi hvl ⊢
  have hvn : ((vl.map Prod.fst).map ptrc).length = i := by
    have := congrArg List.length hvl
    simpa using this
  by_cases hlt : i < (V % 5).toNat
  · repeat' (first
    | refine swl_op ?_
    | (refine s1_move ?_; refine sc_r (R_move (by rfl)) (by rfl) ?_)
    | (refine s1_assign ?_; refine sc_r (R_assign (by rfl)) (by rfl) ?_)
    | (refine s1_pick ?_; refine sc_r (R_pick_f (by rfl) (by rfl)) (by rfl) ?_)
    | (refine s1_bin ?_; first | refine sc_r (R_lss (by rfl) (by rfl)) (by rfl) ?_ | refine sc_r (R_add64 (by rfl) (by rfl) (by omega)) (by rfl) ?_ | refine sc_r (R_neq (by rfl) (by rfl)) (by rfl) ?_ | refine sc_r (R_rem (by rfl) (by rfl) (by omega)) (by rfl) ?_ | refine sc_r (R_eql_nil (by rfl) (by rfl)) (by rfl) ?_)
    | (refine s1_call ?_; first | (refine sc_c (by rfl) (C_call (by rfl) (by infer_instance) (by rfl) (by rfl) (dev_New' _ (by omega))) (by rfl) ?_; rintro _ _ ⟨a, rfl, rfl⟩) | (refine sc_w (by rfl) (W_append1 (by rfl) (by rfl) (by focus ((repeat (first | exact Rem.here | apply Rem.there)); done)) (by infer_instance) (by rfl) (by rfl) (by omega)) (by rfl) ?_; rintro v1 _ rfl))
    | (refine s1_conv ?_; refine sc_r (R_conv64 (by rfl) (by omega)) (by rfl) ?_)
    | (refine s1_any ?_; first | refine sc_r (R_extract (by rfl) (by rfl)) (by rfl) ?_ | (refine sc_w (by rfl) (W_buildSlice1s (by rfl) (by rfl)) (by rfl) ?_; rintro _ _ ⟨_, rfl, rfl⟩))
    | refine swl_nil ?_
    | refine sx_next ?_
    | refine sw_seq ?_
    | refine sw_region ?_
    | refine sw_block ?_
    | refine swl_g_on (by rfl) (by rfl) ?_
    | refine sx_block_normal ?_
    | refine sw_cond_false (by rfl) ?_
    | refine sw_cond_pos (by rfl) (by first | assumption | omega) ?_
    | refine sw_skip ?_
    | fail)
    rename_i w1
    refine sx_back (i + 1, vl ++ [(a, newDev (1 + S % 70).toNat)], v1) (by simp only; omega) ⟨by simp only; omega, ?_⟩ (subE.cons rfl (subE.cons rfl (subE.cons rfl (subE.cons rfl (subE.cons rfl (subE.cons rfl (subE.cons rfl (subE.cons rfl subE.nil)))))))) ?_
    · dsimp only
      rw [List.map_append, hvl, List.replicate_succ']; rfl
    · dsimp only
      refine Ent.pick (by focus ((repeat (first | exact Rem.here | apply Rem.there)); done)) (Ent.trans ?_ (devs_snoc vl a _))
      rw [List.map_append, List.map_append]
      (repeat (first | exact Ent.refl _ | exact Ent.nil | (apply Ent.pick; focus ((repeat (first | exact Rem.here | apply Rem.there)); done)) | apply Ent.drop))
  · have hk : i = (V % 5).toNat := by omega
    have hlv : vl.length = i := by simpa using hvn
    refine sw_know (fun h H => vec_fact (Ent.own (show Ent _ [vec 26 1 ((vl.map Prod.fst).map ptrc) sl] from by (repeat (first | exact Ent.refl _ | exact Ent.nil | (apply Ent.pick; focus ((repeat (first | exact Rem.here | apply Rem.there)); done)) | apply Ent.drop))) H)) ?_
    rintro ⟨pv, cv, rfl, hsl⟩
    rw [hvn] at hsl ⊢
    have hff : Fact' (((vl.map Prod.fst).map ptrc).length = i) := ⟨hvn⟩
    have hfn := fits_new (g := g) (N := (D + 1).toNat) hvl
    cases hB : (mayG g && fitsF g (newDev (D + 1).toNat) vl)
    · have cF := fun (F : List HP) (pv : Option Addr) (nv cv : Nat) (hv : SlC F pv 1 nv cv ((vl.map Prod.fst).map ptrc)) => medium_Format_no g d (newDev (D + 1).toNat) vl hB hv
      have hop := open_new (show 0 < (D + 1).toNat by omega) vl
      have hne : openE (newDev (D + 1).toNat) vl ≠ 0 := by rw [hop]; split <;> decide
      have cO := fun (F : List HP) (hg : HalvesC F) (pv : Option Addr) (nv cv : Nat) (hv : SlC F pv 1 nv cv ((vl.map Prod.fst).map ptrc)) => medium_Open_no d (newDev (D + 1).toNat) vl hne hv
      rw [hop] at cO
      by_cases h16 : (D + 1).toNat < 16
      · rw [if_pos h16] at cO
        cases hm : mayG g
        · have hM := fun (L : List HP) => ref3_May' g _ hm (L := L)
          unfold Geo.cells at *
          repeat' (first
    | refine swl_op ?_
    | (refine s1_move ?_; refine sc_r (R_move (by rfl)) (by rfl) ?_)
    | (refine s1_load ?_; refine sc_r (L_load_all (by rfl) (by infer_instance) (by rfl)) (by rfl) ?_)
    | (refine s1_assign ?_; refine sc_r (R_assign (by rfl)) (by rfl) ?_)
    | (refine s1_pick ?_; first | refine sc_r (R_pick_t (by rfl) (by rfl)) (by rfl) ?_ | refine sc_r (R_pick_f (by rfl) (by rfl)) (by rfl) ?_)
    | (refine s1_bin ?_; first | refine sc_r (R_lss (by rfl) (by rfl)) (by rfl) ?_ | refine sc_r (R_eql (by rfl) (by rfl)) (by rfl) ?_ | refine sc_r (R_neq (by rfl) (by rfl)) (by rfl) ?_ | refine sc_r (R_rem (by rfl) (by rfl) (by omega)) (by rfl) ?_ | refine sc_r (R_eql_nil (by rfl) (by rfl)) (by rfl) ?_)
    | (refine s1_call ?_; first | (refine sc_c (by rfl) (C_call (by rfl) (by infer_instance) (by rfl) (by rfl) (hM _)) (by rfl) ?_; rintro _ _ ⟨rfl, rfl⟩) | (refine sc_c (by rfl) (C_call (by rfl) (by infer_instance) (by rfl) (by rfl) (Tr.ent (Ent.pickC (by infer_instance) (Ent.pickC (by infer_instance) (Ent.refl _))) (cF _ _ _ _ (by infer_instance)))) (by rfl) ?_; rintro _ _ ⟨rfl, rfl⟩) | (refine sc_c (by rfl) (C_call (by rfl) (by infer_instance) (by rfl) (by rfl) (Tr.ent (Ent.pickC (by infer_instance) (Ent.pickC (by infer_instance) (Ent.refl _))) (cO _ (by infer_instance) _ _ _ (by infer_instance)))) (by rfl) ?_; rintro _ _ ⟨rfl, rfl⟩) | (refine sc_c (by rfl) (C_call (by rfl) (by infer_instance) (by rfl) (by rfl) (law21_awake)) (by rfl) ?_; rintro _ _ ⟨rfl, rfl⟩))
    | (refine s1_conv ?_; refine sc_r (R_conv64 (by rfl) (by omega)) (by rfl) ?_)
    | (refine s1_any ?_; refine sc_r (R_extract (by rfl) (by rfl)) (by rfl) ?_)
    | refine swl_nil ?_
    | refine sx_next ?_
    | refine sw_seq ?_
    | refine sw_region ?_
    | refine swl_g_on (by rfl) (by rfl) ?_
    | refine swl_g_off (by rfl) (by rfl) (by rfl) (by rfl) ?_
    | refine swl_g_un (by rfl) (by rfl) (by rfl) ?_
    | refine swl_g_pos (by rfl) (by rfl) (by first | assumption | omega) ?_
    | refine sx_past_exit ?_
    | refine sx_block_here ?_
    | refine sw_cond_false (by rfl) ?_
    | refine sw_cond_neg (by rfl) (by first | assumption | omega) ?_
    | refine sw_ret ?_
    | refine sw_exit ?_
    | refine sw_skip ?_
    | fail)
          all_goals exact sx_ret_of (res1 rfl (ResOne.tmp rfl)) _ ⟨rfl, rfl⟩ (by (repeat (first | exact Ent.refl _ | exact Ent.nil | (apply Ent.pick; focus ((repeat (first | exact Rem.here | apply Rem.there)); done)) | apply Ent.drop)))
        · rw [hm, Bool.true_and] at hB
          rw [hB] at hfn
          have hno := of_decide_eq_false hfn.symm
          have hg := mayG_is hm
          have hM := fun (L : List HP) => ref3_May' g _ hm (L := L)
          unfold Geo.cells at *
          repeat' (first
    | refine swl_op ?_
    | (refine s1_move ?_; refine sc_r (R_move (by rfl)) (by rfl) ?_)
    | (refine s1_load ?_; first | refine sc_r (L_load' (by rfl) (by infer_instance) (by rfl)) (by rfl) ?_ | refine sc_r (L_load_all (by rfl) (by infer_instance) (by rfl)) (by rfl) ?_)
    | (refine s1_fieldAddr ?_; refine sc_r (R_fieldAddr (by rfl)) (by rfl) ?_)
    | (refine s1_assign ?_; refine sc_r (R_assign (by rfl)) (by rfl) ?_)
    | (refine s1_pick ?_; first | refine sc_r (R_pick_t (by rfl) (by rfl)) (by rfl) ?_ | refine sc_r (R_pick_f (by rfl) (by rfl)) (by rfl) ?_)
    | (refine s1_bin ?_; first | refine sc_r (R_lss (by rfl) (by rfl)) (by rfl) ?_ | refine sc_r (R_add64 (by rfl) (by rfl) (by omega)) (by rfl) ?_ | refine sc_r (R_eql (by rfl) (by rfl)) (by rfl) ?_ | refine sc_r (R_neq (by rfl) (by rfl)) (by rfl) ?_ | refine sc_r (R_mul64 (by rfl) (by rfl) (by first | assumption | omega)) (by rfl) ?_ | refine sc_r (R_rem (by rfl) (by rfl) (by omega)) (by rfl) ?_ | refine sc_r (R_eql_nil (by rfl) (by rfl)) (by rfl) ?_)
    | (refine s1_call ?_; first | (refine sc_c (by rfl) (C_call (by rfl) (by infer_instance) (by rfl) (by rfl) (hM _)) (by rfl) ?_; rintro _ _ ⟨rfl, rfl⟩) | (refine sc_c (by rfl) (C_call (by rfl) (by infer_instance) (by rfl) (by rfl) (Tr.ent (Ent.pickC (by infer_instance) (Ent.pickC (by infer_instance) (Ent.refl _))) (cF _ _ _ _ (by infer_instance)))) (by rfl) ?_; rintro _ _ ⟨rfl, rfl⟩) | (refine sc_c (by rfl) (C_call (by rfl) (by infer_instance) (by rfl) (by rfl) (Tr.ent (Ent.pickC (by infer_instance) (Ent.pickC (by infer_instance) (Ent.refl _))) (cO _ (by infer_instance) _ _ _ (by infer_instance)))) (by rfl) ?_; rintro _ _ ⟨rfl, rfl⟩) | (refine sc_c (by rfl) (C_call (by rfl) (by infer_instance) (by rfl) (by rfl) (law21_awake)) (by rfl) ?_; rintro _ _ ⟨rfl, rfl⟩))
    | (refine s1_conv ?_; refine sc_r (R_conv64 (by rfl) (by omega)) (by rfl) ?_)
    | (refine s1_any ?_; refine sc_r (R_extract (by rfl) (by rfl)) (by rfl) ?_)
    | refine swl_nil ?_
    | refine sx_next ?_
    | refine sw_seq ?_
    | refine sw_region ?_
    | refine swl_g_on (by rfl) (by rfl) ?_
    | refine swl_g_off (by rfl) (by rfl) (by rfl) (by rfl) ?_
    | refine swl_g_un (by rfl) (by rfl) (by rfl) ?_
    | refine swl_g_pos (by rfl) (by rfl) (by first | assumption | omega) ?_
    | refine swl_g_neg (by rfl) (by rfl) (by first | assumption | omega) ?_
    | refine sx_past_exit ?_
    | refine sx_block_here ?_
    | refine sw_cond_false (by rfl) ?_
    | refine sw_cond_neg (by rfl) (by first | assumption | omega) ?_
    | refine sw_ret ?_
    | refine sw_exit ?_
    | refine sw_skip ?_
    | fail)
          --DBG
          all_goals first
            | exact sx_ret_of (res1 rfl (ResOne.tmp rfl)) _ ⟨rfl, rfl⟩ (by (repeat (first | exact Ent.refl _ | exact Ent.nil | (apply Ent.pick; focus ((repeat (first | exact Rem.here | apply Rem.there)); done)) | apply Ent.drop)))
            | (exfalso; omega)
      · rw [if_neg h16] at cO
        cases hm : mayG g
        · have hM := fun (L : List HP) => ref3_May' g _ hm (L := L)
          unfold Geo.cells at *
          repeat' (first
    | refine swl_op ?_
    | (refine s1_move ?_; refine sc_r (R_move (by rfl)) (by rfl) ?_)
    | (refine s1_load ?_; refine sc_r (L_load_all (by rfl) (by infer_instance) (by rfl)) (by rfl) ?_)
    | (refine s1_assign ?_; refine sc_r (R_assign (by rfl)) (by rfl) ?_)
    | (refine s1_pick ?_; first | refine sc_r (R_pick_t (by rfl) (by rfl)) (by rfl) ?_ | refine sc_r (R_pick_f (by rfl) (by rfl)) (by rfl) ?_)
    | (refine s1_bin ?_; first | refine sc_r (R_lss (by rfl) (by rfl)) (by rfl) ?_ | refine sc_r (R_geq (by rfl) (by rfl)) (by rfl) ?_ | refine sc_r (R_eql (by rfl) (by rfl)) (by rfl) ?_ | refine sc_r (R_neq (by rfl) (by rfl)) (by rfl) ?_ | refine sc_r (R_rem (by rfl) (by rfl) (by omega)) (by rfl) ?_ | refine sc_r (R_eql_nil (by rfl) (by rfl)) (by rfl) ?_)
    | (refine s1_call ?_; first | (refine sc_c (by rfl) (C_call (by rfl) (by infer_instance) (by rfl) (by rfl) (hM _)) (by rfl) ?_; rintro _ _ ⟨rfl, rfl⟩) | (refine sc_c (by rfl) (C_call (by rfl) (by infer_instance) (by rfl) (by rfl) (Tr.ent (Ent.pickC (by infer_instance) (Ent.pickC (by infer_instance) (Ent.refl _))) (cF _ _ _ _ (by infer_instance)))) (by rfl) ?_; rintro _ _ ⟨rfl, rfl⟩) | (refine sc_c (by rfl) (C_call (by rfl) (by infer_instance) (by rfl) (by rfl) (Tr.ent (Ent.pickC (by infer_instance) (Ent.pickC (by infer_instance) (Ent.refl _))) (cO _ (by infer_instance) _ _ _ (by infer_instance)))) (by rfl) ?_; rintro _ _ ⟨rfl, rfl⟩) | (refine sc_c (by rfl) (C_call (by rfl) (by infer_instance) (by rfl) (by rfl) (law21_awake)) (by rfl) ?_; rintro _ _ ⟨rfl, rfl⟩))
    | (refine s1_conv ?_; refine sc_r (R_conv64 (by rfl) (by omega)) (by rfl) ?_)
    | (refine s1_any ?_; refine sc_r (R_extract (by rfl) (by rfl)) (by rfl) ?_)
    | refine swl_nil ?_
    | refine sx_next ?_
    | refine sw_seq ?_
    | refine sw_region ?_
    | refine swl_g_on (by rfl) (by rfl) ?_
    | refine swl_g_off (by rfl) (by rfl) (by rfl) (by rfl) ?_
    | refine swl_g_un (by rfl) (by rfl) (by rfl) ?_
    | refine swl_g_pos (by rfl) (by rfl) (by first | assumption | omega) ?_
    | refine sx_past_exit ?_
    | refine sx_block_here ?_
    | refine sw_cond_false (by rfl) ?_
    | refine sw_cond_neg (by rfl) (by first | assumption | omega) ?_
    | refine sw_ret ?_
    | refine sw_exit ?_
    | refine sw_skip ?_
    | fail)
          all_goals exact sx_ret_of (res1 rfl (ResOne.tmp rfl)) _ ⟨rfl, rfl⟩ (by (repeat (first | exact Ent.refl _ | exact Ent.nil | (apply Ent.pick; focus ((repeat (first | exact Rem.here | apply Rem.there)); done)) | apply Ent.drop)))
        · rw [hm, Bool.true_and] at hB
          rw [hB] at hfn
          have hno := of_decide_eq_false hfn.symm
          have hg := mayG_is hm
          have hM := fun (L : List HP) => ref3_May' g _ hm (L := L)
          unfold Geo.cells at *
          repeat' (first
    | refine swl_op ?_
    | (refine s1_move ?_; refine sc_r (R_move (by rfl)) (by rfl) ?_)
    | (refine s1_load ?_; first | refine sc_r (L_load' (by rfl) (by infer_instance) (by rfl)) (by rfl) ?_ | refine sc_r (L_load_all (by rfl) (by infer_instance) (by rfl)) (by rfl) ?_)
    | (refine s1_fieldAddr ?_; refine sc_r (R_fieldAddr (by rfl)) (by rfl) ?_)
    | (refine s1_assign ?_; refine sc_r (R_assign (by rfl)) (by rfl) ?_)
    | (refine s1_pick ?_; first | refine sc_r (R_pick_t (by rfl) (by rfl)) (by rfl) ?_ | refine sc_r (R_pick_f (by rfl) (by rfl)) (by rfl) ?_)
    | (refine s1_bin ?_; first | refine sc_r (R_lss (by rfl) (by rfl)) (by rfl) ?_ | refine sc_r (R_add64 (by rfl) (by rfl) (by omega)) (by rfl) ?_ | refine sc_r (R_geq (by rfl) (by rfl)) (by rfl) ?_ | refine sc_r (R_eql (by rfl) (by rfl)) (by rfl) ?_ | refine sc_r (R_neq (by rfl) (by rfl)) (by rfl) ?_ | refine sc_r (R_mul64 (by rfl) (by rfl) (by first | assumption | omega)) (by rfl) ?_ | refine sc_r (R_rem (by rfl) (by rfl) (by omega)) (by rfl) ?_ | refine sc_r (R_eql_nil (by rfl) (by rfl)) (by rfl) ?_)
    | (refine s1_call ?_; first | (refine sc_c (by rfl) (C_call (by rfl) (by infer_instance) (by rfl) (by rfl) (hM _)) (by rfl) ?_; rintro _ _ ⟨rfl, rfl⟩) | (refine sc_c (by rfl) (C_call (by rfl) (by infer_instance) (by rfl) (by rfl) (Tr.ent (Ent.pickC (by infer_instance) (Ent.pickC (by infer_instance) (Ent.refl _))) (cF _ _ _ _ (by infer_instance)))) (by rfl) ?_; rintro _ _ ⟨rfl, rfl⟩) | (refine sc_c (by rfl) (C_call (by rfl) (by infer_instance) (by rfl) (by rfl) (Tr.ent (Ent.pickC (by infer_instance) (Ent.pickC (by infer_instance) (Ent.refl _))) (cO _ (by infer_instance) _ _ _ (by infer_instance)))) (by rfl) ?_; rintro _ _ ⟨rfl, rfl⟩) | (refine sc_c (by rfl) (C_call (by rfl) (by infer_instance) (by rfl) (by rfl) (law21_awake)) (by rfl) ?_; rintro _ _ ⟨rfl, rfl⟩) | refine sc_r (R_len (by rfl)) (by rfl) ?_)
    | (refine s1_conv ?_; refine sc_r (R_conv64 (by rfl) (by omega)) (by rfl) ?_)
    | (refine s1_any ?_; refine sc_r (R_extract (by rfl) (by rfl)) (by rfl) ?_)
    | refine swl_nil ?_
    | refine sx_next ?_
    | refine sw_seq ?_
    | refine sw_region ?_
    | refine swl_g_on (by rfl) (by rfl) ?_
    | refine swl_g_off (by rfl) (by rfl) (by rfl) (by rfl) ?_
    | refine swl_g_un (by rfl) (by rfl) (by rfl) ?_
    | refine swl_g_pos (by rfl) (by rfl) (by first | assumption | omega) ?_
    | refine swl_g_neg (by rfl) (by rfl) (by first | assumption | omega) ?_
    | refine swl_g_dec (by rfl) (by rfl) (fun hp => ?_) (fun hp => ?_)
    | refine sx_past_exit ?_
    | refine sx_block_here ?_
    | refine sw_cond_false (by rfl) ?_
    | refine sw_cond_neg (by rfl) (by first | assumption | omega) ?_
    | refine sw_ret ?_
    | refine sw_exit ?_
    | refine sw_skip ?_
    | fail)
          all_goals first
            | exact sx_ret_of (res1 rfl (ResOne.tmp rfl)) _ ⟨rfl, rfl⟩ (by (repeat (first | exact Ent.refl _ | exact Ent.nil | (apply Ent.pick; focus ((repeat (first | exact Rem.here | apply Rem.there)); done)) | apply Ent.drop)))
            | (exfalso; omega)
    · simp only [Bool.and_eq_true] at hB
      obtain ⟨hm, hf⟩ := hB
      have hg := mayG_is hm
      have hfn' := hfn
      rw [hf] at hfn'
      obtain ⟨⟨hN, hnv⟩, hor⟩ := of_decide_eq_true hfn'.symm
      obtain ⟨SD, VL, G, cF, cO⟩ := refuse_ok hm hf (by rw [hlv]; exact hvl) (by omega)
      rw [hlv] at hnv hor
      have hM := fun (L : List HP) => ref3_May' g _ hm (L := L)
      unfold Geo.cells at *
      by_cases hl0 : i = 0
      all_goals
        repeat' (first
    | refine swl_op ?_
    | (refine s1_move ?_; refine sc_r (R_move (by rfl)) (by rfl) ?_)
    | (refine s1_load ?_; first | refine sc_r (L_load' (by rfl) (by infer_instance) (by rfl)) (by rfl) ?_ | refine sc_r (L_load_all (by rfl) (by infer_instance) (by rfl)) (by rfl) ?_)
    | (refine s1_fieldAddr ?_; refine sc_r (R_fieldAddr (by rfl)) (by rfl) ?_)
    | (refine s1_assign ?_; refine sc_r (R_assign (by rfl)) (by rfl) ?_)
    | (refine s1_pick ?_; first | refine sc_r (R_pick_t (by rfl) (by rfl)) (by rfl) ?_ | refine sc_r (R_pick_f (by rfl) (by rfl)) (by rfl) ?_)
    | (refine s1_bin ?_; first | refine sc_r (R_lss (by rfl) (by rfl)) (by rfl) ?_ | refine sc_r (R_add64 (by rfl) (by rfl) (by omega)) (by rfl) ?_ | refine sc_r (R_eql (by rfl) (by rfl)) (by rfl) ?_ | refine sc_r (R_neq (by rfl) (by rfl)) (by rfl) ?_ | refine sc_r (R_mul64 (by rfl) (by rfl) (by first | assumption | omega)) (by rfl) ?_ | refine sc_r (R_rem (by rfl) (by rfl) (by omega)) (by rfl) ?_ | refine sc_r (R_eql_nil (by rfl) (by rfl)) (by rfl) ?_ | refine sc_r (R_neq_nil (by rfl) (by rfl)) (by rfl) ?_)
    | (refine s1_call ?_; first | (refine sc_c (by rfl) (C_call (by rfl) (by infer_instance) (by rfl) (by rfl) (hM _)) (by rfl) ?_; rintro _ _ ⟨rfl, rfl⟩) | (refine sc_c (by rfl) (C_call (by rfl) (by infer_instance) (by rfl) (by rfl) (Tr.ent (Ent.pickC (by infer_instance) (Ent.pickC (by infer_instance) (Ent.refl _))) (cF d _ (by infer_instance) _ _ _ (by infer_instance)))) (by rfl) ?_; rintro _ _ ⟨m, rfl, rfl⟩) | (refine sc_c (by rfl) (C_call (by rfl) (by infer_instance) (by rfl) (by rfl) (Tr.ent (Ent.pickC (by infer_instance) (Ent.pickC (by infer_instance) (Ent.refl _))) (cO d _ (by infer_instance) _ _ _ (by infer_instance)))) (by rfl) ?_; rintro _ _ ⟨m2, rfl, rfl⟩) | (refine sc_c (by rfl) (C_call (by rfl) (by infer_instance) (by rfl) (by rfl) (law21_awake)) (by rfl) ?_; rintro _ _ ⟨rfl, rfl⟩) | refine sc_r (R_len (by rfl)) (by rfl) ?_)
    | (refine s1_conv ?_; refine sc_r (R_conv64 (by rfl) (by omega)) (by rfl) ?_)
    | (refine s1_any ?_; refine sc_r (R_extract (by rfl) (by rfl)) (by rfl) ?_)
    | refine swl_nil ?_
    | refine sx_next ?_
    | refine sw_seq ?_
    | refine sw_region ?_
    | refine swl_g_on (by rfl) (by rfl) ?_
    | refine swl_g_off (by rfl) (by rfl) (by rfl) (by rfl) ?_
    | refine swl_g_pos (by rfl) (by rfl) (by first | assumption | omega) ?_
    | refine swl_g_neg (by rfl) (by rfl) (by first | assumption | omega) ?_
    | refine sx_past_ret ?_
    | refine sx_past_exit ?_
    | refine sx_block_here ?_
    | refine sw_cond_true (by rfl) ?_
    | refine sw_cond_false (by rfl) ?_
    | refine sw_cond_pos (by rfl) (by first | assumption | omega) ?_
    | refine sw_cond_neg (by rfl) (by first | assumption | omega) ?_
    | refine sw_ret ?_
    | refine sw_exit ?_
    | refine sw_skip ?_
    | fail)
        all_goals exact sx_ret_of (res1 rfl (ResOne.tmp rfl)) _ ⟨rfl, rfl⟩ (by (repeat (first | exact Ent.refl _ | exact Ent.nil | (apply Ent.pick; focus ((repeat (first | exact Rem.here | apply Rem.there)); done)) | apply Ent.drop)))
end Go.Proofs.YtcpfehldofmipaaDoor
