/-
  Media: of what devices; put together.
-/
import Derived.Test.YtcpfehldofmipaaDoorMed4
namespace Go.Proofs.YtcpfehldofmipaaDoor
open Go Go.SL Go.Proofs

def genLab (vol : Int) (s : DevS) : Int := if rdE s 0 = 0 then (if (readLabelF (rdB s 0)).2.2 = 0 ∧ (readLabelF (rdB s 0)).1 = vol then (readLabelF (rdB s 0)).2.1 else -1) else -1
theorem medium_generation (vol : Int) (a : Nat) (s : DevS) {F : List HP} [HalvesC F] :
    Tr Tryd.prog 48 [.int .i64 vol, .pointer (some ⟨a, 0, none⟩)].toArray (devP a s :: F) (fun v L' => v = .int .i64 (genLab vol s) ∧ L' = devP a s :: F) := by
  refine tr_enter Tryd.func48 rfl Tryd.ntmps48 rfl fun w0 => ?_
  have hR := fun (L : List HP) => dev_Read a s 0 (L := L)
  unfold genLab
  by_cases hr : rdE s 0 = 0
  · rw [if_pos hr]
    rw [hr] at hR
    have hL := fun (L : List HP) (hg : HalvesC L) (p : Option Addr) (n c : Nat) (h : SlC L p 1 n c ((rdB s 0).map u8c)) => label_ReadLabel (rdB s 0) h
    generalize readLabelF (rdB s 0) = r at *
    obtain ⟨r1, r2, r3⟩ := r
    dsimp only at hL ⊢
    repeat' (first
    | refine swl_op ?_
    | (refine s1_move ?_; refine sc_r (R_move (by rfl)) (by rfl) ?_)
    | (refine s1_assign ?_; refine sc_r (R_assign (by rfl)) (by rfl) ?_)
    | (refine s1_pick ?_; first | refine sc_r (R_pick_t (by rfl) (by rfl)) (by rfl) ?_ | refine sc_r (R_pick_f (by rfl) (by rfl)) (by rfl) ?_)
    | (refine s1_bin ?_; refine sc_r (R_neq (by rfl) (by rfl)) (by rfl) ?_)
    | (refine s1_call ?_; first | (refine sc_c (by rfl) (C_call (by rfl) (by infer_instance) (by rfl) (by rfl) (hR _)) (by rfl) ?_; rintro _ _ ⟨sl, rfl, rfl⟩; refine swl_know (fun h H => vec_fact H) ?_; rintro ⟨pc, cc, rfl, hf⟩; rw [List.length_map] at hf ⊢) | (refine sc_c (by rfl) (C_call (by rfl) (by infer_instance) (by rfl) (by rfl) (hL _ (by infer_instance) _ _ _ (by infer_instance))) (by rfl) ?_; rintro _ _ ⟨rfl, rfl⟩))
    | (refine s1_any ?_; refine sc_r (R_extract (by rfl) (by rfl)) (by rfl) ?_)
    | refine swl_nil ?_
    | refine sx_next ?_
    | refine sw_seq ?_
    | refine sw_region ?_
    | refine swl_g_on (by rfl) (by rfl) ?_
    | refine swl_g_off (by rfl) (by rfl) (by rfl) (by rfl) ?_
    | refine swl_g_ndec (by rfl) (by rfl) (fun hp => ?_) (fun hp => ?_)
    | refine sx_past_ret ?_
    | refine sw_cond_true (by rfl) ?_
    | refine sw_cond_false (by rfl) ?_
    | refine sw_cond_not (by rfl) (fun hp => ?_) (fun hp => ?_)
    | refine sw_ret ?_
    | refine sw_skip ?_
    | fail)
    all_goals refine sx_ret_of (res1 rfl (ResOne.tmp rfl)) _ ⟨?_, rfl⟩ (by (repeat (first | exact Ent.refl _ | exact Ent.nil | (apply Ent.pick; focus ((repeat (first | exact Rem.here | apply Rem.there)); done)) | apply Ent.drop)))
    · rw [if_neg (fun h => by first | exact hp h.2 | exact hp h.1)]
    · rw [if_neg (fun h => by first | exact hp h.2 | exact hp h.1)]
    · rw [if_pos ⟨by assumption, by assumption⟩]; rfl
  · rw [if_neg hr]
    repeat' (first
    | refine swl_op ?_
    | (refine s1_move ?_; refine sc_r (R_move (by rfl)) (by rfl) ?_)
    | (refine s1_assign ?_; refine sc_r (R_assign (by rfl)) (by rfl) ?_)
    | (refine s1_bin ?_; refine sc_r (R_neq (by rfl) (by rfl)) (by rfl) ?_)
    | (refine s1_call ?_; (refine sc_c (by rfl) (C_call (by rfl) (by infer_instance) (by rfl) (by rfl) (hR _)) (by rfl) ?_; rintro _ _ ⟨sl, rfl, rfl⟩))
    | (refine s1_any ?_; refine sc_r (R_extract (by rfl) (by rfl)) (by rfl) ?_)
    | refine swl_nil ?_
    | refine sx_next ?_
    | refine sw_seq ?_
    | refine sw_region ?_
    | refine sx_past_ret ?_
    | refine sw_cond_nneg (by rfl) (by first | assumption | omega) ?_
    | refine sw_ret ?_
    | fail)
    exact sx_ret_of (res1 rfl (ResOne.tmp rfl)) _ ⟨rfl, rfl⟩ (by (repeat (first | exact Ent.refl _ | exact Ent.nil | (apply Ent.pick; focus ((repeat (first | exact Rem.here | apply Rem.there)); done)) | apply Ent.drop)))

theorem devs_Size (vl : List (Nat × DevS)) (i : Nat) (h : i < vl.length) {F : List HP} : Tr Tryd.prog 45 [.pointer (some ⟨vl[i].1, 0, none⟩)].toArray (devsP vl :: F) (fun v L' => v = .int .i64 vl[i].2.blocks.length ∧ L' = devsP vl :: F) :=
  (Tr.ent (devs_cut vl i h) (dev_Size vl[i].1 vl[i].2)).weaken fun v L' ⟨h1, h2⟩ => ⟨_, by rw [h2]; exact devs_same vl i h, h1, rfl⟩

def fitsF (g : Geo) (s : DevS) (vl : List (Nat × DevS)) : Bool := decide ((s.blocks.length : Int) = 16 + g.disk * 16 ∧ (vl.length : Int) = g.vols) && vl.all fun x => decide ((x.2.blocks.length : Int) = 1 + g.segs * 16)
set_option maxHeartbeats 1000000 in
theorem medium_fits (g : Geo) (hm : mayG g = true) (d : Nat) (s : DevS) (vl : List (Nat × DevS)) {pv : Option Addr} {nv cv : Nat} {F : List HP} (hv : SlC F pv 1 nv cv ((vl.map Prod.fst).map ptrc)) :
    Tr Tryd.prog 37 [.agg g.cells, .pointer (some ⟨d, 0, none⟩), .slice pv nv cv].toArray (devP d s :: devsP vl :: F) (fun v L' => v = .bool (fitsF g s vl) ∧ L' = devP d s :: devsP vl :: F) := by
  have hlen : vl.length = nv := by simpa using hv.len
  have hg := mayG_is hm
  have hbd := hv.bd
  refine tr_enter Tryd.func37 rfl Tryd.ntmps37 rfl fun w0 => ?_
  unfold fitsF Geo.cells
  repeat' (first
    | refine swl_op ?_
    | (refine s1_move ?_; refine sc_r (R_move (by rfl)) (by rfl) ?_)
    | (refine s1_load ?_; refine sc_r (L_load' (by rfl) (by infer_instance) (by rfl)) (by rfl) ?_)
    | (refine s1_fieldAddr ?_; refine sc_r (R_fieldAddr (by rfl)) (by rfl) ?_)
    | (refine s1_assign ?_; refine sc_r (R_assign (by rfl)) (by rfl) ?_)
    | (refine s1_pick ?_; first | refine sc_r (R_pick_t (by rfl) (by rfl)) (by rfl) ?_ | refine sc_r (R_pick_f (by rfl) (by rfl)) (by rfl) ?_)
    | (refine s1_bin ?_; first | refine sc_r (R_add64 (by rfl) (by rfl) (by omega)) (by rfl) ?_ | refine sc_r (R_neq (by rfl) (by rfl)) (by rfl) ?_ | refine sc_r (R_mul64 (by rfl) (by rfl) (by first | assumption | omega)) (by rfl) ?_)
    | (refine s1_call ?_; first | (refine sc_c (by rfl) (C_call (by rfl) (by infer_instance) (by rfl) (by rfl) (Tr.ent (Ent.pick (by focus ((repeat (first | exact Rem.here | apply Rem.there)); done)) (Ent.refl _)) (dev_Size d s))) (by rfl) ?_; rintro _ _ ⟨rfl, rfl⟩) | refine sc_r (R_len (by rfl)) (by rfl) ?_)
    | (refine s1_box ?_; (refine sc_w (by rfl) (W_boxA (by rfl)) (by rfl) ?_; rintro _ _ ⟨_, rfl, rfl⟩))
    | refine swl_nil ?_
    | refine sx_next ?_
    | refine sw_seq ?_
    | refine sw_region ?_
    | refine sw_block ?_
    | refine sx_past_ret ?_
    | refine sw_cond_true (by rfl) ?_
    | refine sw_cond_not (by rfl) (fun hp => ?_) (fun hp => ?_)
    | refine sw_ret ?_
    | refine sw_skip ?_
    | refine swh_lt (by rfl) (fun _ _ => wanted_none) ?_
    | refine swh_lt (by rfl) (wanted_on (by rfl) (by rfl)) ?_
    | refine swh_off (by rfl) (by rfl) (by rfl) (by rfl) (by rfl) ?_
    | refine swh_hv (by rfl) (fun _ _ => wanted_none) ?_
    | refine swh_g_ndec (by rfl) (by rfl) (by rfl) (fun hp => ?_) (fun hp => ?_)
    | refine swh_nil ?_
    | (apply And.intro; focus ((repeat (first | exact Ent.refl _ | exact Ent.nil | (apply Ent.pick; focus ((repeat (first | exact Rem.here | apply Rem.there)); done)) | apply Ent.drop)); done))
    | (refine sw_draw [(0, true), (2, true), (3, true), (4, true), (5, true), (1, false), (6, true), (7, true), (8, true), (9, true), (10, true), (11, true), (12, true), (13, true)] follows ?_ ?_ ?_; (focus rfl); (focus (decide +kernel)))
    | fail)
  · refine sx_ret_of (res1 rfl (ResOne.tmp rfl)) _ ⟨?_, rfl⟩ (by (repeat (first | exact Ent.refl _ | exact Ent.nil | (apply Ent.pick; focus ((repeat (first | exact Rem.here | apply Rem.there)); done)) | apply Ent.drop)))
    simp [hp]
  · refine sx_ret_of (res1 rfl (ResOne.tmp rfl)) _ ⟨?_, rfl⟩ (by (repeat (first | exact Ent.refl _ | exact Ent.nil | (apply Ent.pick; focus ((repeat (first | exact Rem.here | apply Rem.there)); done)) | apply Ent.drop)))
    simp [hlen, hp]
  rename_i b3 hps
  refine sw_loop (γ := Nat) (fun k => nv - k) (fun k => [(3, .pointer (some ⟨b3, 0, none⟩)), (23, .slice pv nv cv), (24, .int .i64 nv), (25, .int .i64 k)]) (fun _ => devP d s :: pt b3 (.cells #[.int .i64 g.disk, .int .i64 g.lines, .int .i64 g.vols, .int .i64 g.segs] 23) :: devsP vl :: F)
    (fun k => k ≤ nv ∧ ∀ x ∈ vl.take k, (x.2.blocks.length : Int) = 1 + g.segs * 16) 0 ⟨by omega, by simp⟩ (subE.cons rfl (subE.cons rfl (subE.cons rfl (subE.cons rfl subE.nil)))) (by (repeat (first | exact Ent.refl _ | exact Ent.nil | (apply Ent.pick; focus ((repeat (first | exact Rem.here | apply Rem.there)); done)) | apply Ent.drop))) ?_
  intro k ⟨hk, hall⟩
  by_cases hlt : k < nv
  · obtain ⟨b1, o1, rfl⟩ := hv.ptr (by omega)
    have hi : k < vl.length := by omega
    have he1 : ((vl.map Prod.fst).map ptrc).getD k #[] = #[.pointer (some ⟨vl[k].1, 0, none⟩)] := by rw [ptr_get (by simpa using hi)]; simp
    have hts := List.take_succ_eq_append_getElem hi
    repeat' (first
    | refine swl_op ?_
    | (refine s1_move ?_; refine sc_r (R_move (by rfl)) (by rfl) ?_)
    | (refine s1_load ?_; first | refine sc_r (L_load' (by rfl) (by infer_instance) (by rfl)) (by rfl) ?_ | refine sc_r (L_load_el1 (by rfl) (by infer_instance) (by omega) (by first | assumption | rfl)) (by rfl) ?_)
    | (refine s1_fieldAddr ?_; refine sc_r (R_fieldAddr (by rfl)) (by rfl) ?_)
    | (refine s1_assign ?_; refine sc_r (R_assign (by rfl)) (by rfl) ?_)
    | (refine s1_bin ?_; first | refine sc_r (R_lss (by rfl) (by rfl)) (by rfl) ?_ | refine sc_r (R_add64 (by rfl) (by rfl) (by omega)) (by rfl) ?_ | refine sc_r (R_neq (by rfl) (by rfl)) (by rfl) ?_ | refine sc_r (R_mul64 (by rfl) (by rfl) (by first | assumption | omega)) (by rfl) ?_)
    | (refine s1_call ?_; (refine sc_c (by rfl) (C_call (by rfl) (by infer_instance) (by rfl) (by rfl) (Tr.ent (Ent.pick (by focus ((repeat (first | exact Rem.here | apply Rem.there)); done)) (Ent.refl _)) (devs_Size vl k hi))) (by rfl) ?_; rintro _ _ ⟨rfl, rfl⟩))
    | (refine s1_indexAddr ?_; refine sc_r (R_indexAddr (by rfl) (by rfl) (by omega)) (by rfl) ?_)
    | refine swl_nil ?_
    | refine sx_next ?_
    | refine sw_seq ?_
    | refine sw_region ?_
    | refine sw_block ?_
    | refine sx_past_ret ?_
    | refine sx_block_normal ?_
    | refine sx_block_ret ?_
    | refine sw_cond_pos (by rfl) (by first | assumption | omega) ?_
    | refine sw_cond_not (by rfl) (fun hp => ?_) (fun hp => ?_)
    | refine sw_ret ?_
    | refine sw_skip ?_
    | refine swh_lt (by rfl) (fun _ _ => wanted_none) ?_
    | refine swh_hv (by rfl) (fun _ _ => wanted_none) ?_
    | refine swh_nil ?_
    | (apply And.intro; focus ((repeat (first | exact Ent.refl _ | exact Ent.nil | (apply Ent.pick; focus ((repeat (first | exact Rem.here | apply Rem.there)); done)) | apply Ent.drop)); done))
    | (refine sw_draw [(0, true), (2, true), (3, true), (4, true), (5, true), (1, false), (6, true)] follows ?_ ?_ ?_; (focus rfl); (focus (decide +kernel)))
    | fail)
    --DBG
    · refine sx_ret_of (res1 rfl (ResOne.tmp rfl)) _ ⟨?_, rfl⟩ (by (repeat (first | exact Ent.refl _ | exact Ent.nil | (apply Ent.pick; focus ((repeat (first | exact Rem.here | apply Rem.there)); done)) | apply Ent.drop)))
      have : (vl.all fun x => decide ((x.2.blocks.length : Int) = 1 + g.segs * 16)) = false := by
        rw [List.all_eq_false]
        exact ⟨vl[k], List.getElem_mem hi, by simpa using hp⟩
      rw [this, Bool.and_false]
    · refine sx_back (k + 1) (by omega) ⟨by omega, fun x hx => ?_⟩ (subE.cons rfl (subE.cons rfl (subE.cons rfl (subE.cons rfl subE.nil)))) (by (repeat (first | exact Ent.refl _ | exact Ent.nil | (apply Ent.pick; focus ((repeat (first | exact Rem.here | apply Rem.there)); done)) | apply Ent.drop)))
      rw [hts] at hx
      rcases List.mem_append.1 hx with hx | hx
      · exact hall x hx
      · rw [List.mem_singleton.1 hx]; exact hp
  · rw [List.take_of_length_le (by omega)] at hall
    repeat' (first
    | refine swl_op ?_
    | (refine s1_assign ?_; refine sc_r (R_assign (by rfl)) (by rfl) ?_)
    | (refine s1_bin ?_; refine sc_r (R_lss (by rfl) (by rfl)) (by rfl) ?_)
    | refine swl_nil ?_
    | refine sx_next ?_
    | refine sw_seq ?_
    | refine sw_region ?_
    | refine sx_past_exit ?_
    | refine sx_block_here ?_
    | refine sw_cond_neg (by rfl) (by first | assumption | omega) ?_
    | refine sw_ret ?_
    | refine sw_exit ?_
    | fail)
    refine sx_ret_of (res1 rfl (ResOne.tmp rfl)) _ ⟨?_, rfl⟩ (by (repeat (first | exact Ent.refl _ | exact Ent.nil | (apply Ent.pick; focus ((repeat (first | exact Rem.here | apply Rem.there)); done)) | apply Ent.drop)))
    have h1 : (vl.all fun x => decide ((x.2.blocks.length : Int) = 1 + g.segs * 16)) = true := by
      rw [List.all_eq_true]
      exact fun x hx => by simpa using hall x hx
    rw [h1, Bool.and_true, decide_eq_true ⟨by assumption, by omega⟩]
end Go.Proofs.YtcpfehldofmipaaDoor
