/-
  The chapter's example of media, walked.
-/
import Derived.Test.YtcpfehldofmipaaDoorAwake21a
namespace Go.Proofs.YtcpfehldofmipaaDoor
open Go Go.SL Go.Proofs

instance allB_fact {c : Int} : Fact' (((allB c).map u8c).length = 128) := ⟨by rw [List.length_map, allB_len]⟩
theorem two_of {l : List (Nat × DevS)} {s t : DevS} (h : l.map Prod.snd = [s, t]) : ∃ a b, l = [(a, s), (b, t)] := by
  match l, h with
  | [(a, _), (b, _)], h => simp at h; obtain ⟨rfl, rfl⟩ := h; exact ⟨a, b, rfl⟩
theorem devices_some {L : List HP} : Tr Tryd.prog 14 [.agg someG.cells].toArray L
    (fun v L' => ∃ d a0 a1 sl r rl, v = .tuple #[.pointer (some ⟨d, 0, none⟩), sl, .pointer (some ⟨r, 0, none⟩), rl, .bool true] ∧ L' = devP d (newDev 176) :: devsP [(a0, newDev 49), (a1, newDev 49)] :: vec 26 1 ([a0, a1].map ptrc) sl :: L) :=
  (law21_devices someG (by decide)).weaken fun v L' ⟨d, vl, sl, r, rl, h1, h2, h3⟩ => by
    obtain ⟨a0, a1, rfl⟩ := two_of (s := newDev 49) (t := newDev 49) h2
    exact ⟨_, Ent.refl _, d, a0, a1, sl, r, rl, h1, h3⟩
theorem format_some {S0 S1 SD : DevS} (e0 : ewfE (newDev 49) (labelF 0 0) = 0 ∧ ewfS (newDev 49) (labelF 0 0) = S0) (e1 : ewfE (newDev 49) (labelF 1 0) = 0 ∧ ewfS (newDev 49) (labelF 1 0) = S1) (eD : ewfE (newDev 176) (superF someG) = 0 ∧ ewfS (newDev 176) (superF someG) = SD)
    (d a0 a1 : Nat) {pv : Option Addr} {nv cv : Nat} {F : List HP} [HalvesC F] (hv : SlC F pv 1 nv cv ([a0, a1].map ptrc)) :
    Tr Tryd.prog 11 [.agg someG.cells, .pointer (some ⟨d, 0, none⟩), .slice pv nv cv].toArray (devP d (newDev 176) :: devsP [(a0, newDev 49), (a1, newDev 49)] :: F)
      (fun v L' => ∃ m, v = .tuple #[.pointer (some ⟨m, 0, none⟩), .int .i64 0] ∧ L' = medP m d [a0, a1] someG [0, 0, -1, -1, -1, -1, -1, -1] :: devP d SD :: devsP [(a0, S0), (a1, S1)] :: F) := by
  have h := medium_Format someG d (newDev 176) [(a0, newDev 49), (a1, newDev 49)] (by decide) (by unfold fitsF newDev; simp only [List.length_replicate, List.all_cons, List.all_nil, List.length_cons, List.length_nil]; decide) eD.1 (fun i hi => by
    rcases (by simp at hi; omega : i = 0 ∨ i = 1) with rfl | rfl
    · exact e0.1
    · exact e1.1) hv
  rw [eD.2] at h
  have e : fmV [(a0, newDev 49), (a1, newDev 49)] 2 = [(a0, S0), (a1, S1)] := by
    simp only [fmV, List.mapIdx_cons, List.mapIdx_nil]
    rw [if_pos (by omega), if_pos (by omega)]
    show [(a0, ewfS (newDev 49) (labelF 0 0)), (a1, ewfS (newDev 49) (labelF 1 0))] = _
    rw [e0.2, e1.2]
  refine h.weaken fun v L' ⟨m, h1, h2⟩ => ⟨_, Ent.refl _, m, h1, ?_⟩
  rw [h2, show ([(a0, newDev 49), (a1, newDev 49)] : List (Nat × DevS)).length = 2 from rfl, e]; rfl

set_option maxHeartbeats 4000000 in
theorem law21_awake {L : List HP} [HalvesC L] : Tr Tryd.prog 13 [].toArray L (fun v L' => v = .bool true ∧ L = L') := by
  obtain ⟨S0, S0', S2, S1, SD, e0, e1, eD, ⟨l0, l1, l0', l2, p0, p1, pD⟩, f1, f2, f3, f4, f5, ⟨f6, f7, f8⟩, f9⟩ := awake21_facts
  have cF := fun (d a0 a1 : Nat) (F : List HP) (hg : HalvesC F) (pv : Option Addr) (nv cv : Nat) (hv : SlC F pv 1 nv cv ([a0, a1].map ptrc)) => format_some e0 e1 eD d a0 a1 hv
  have cB0 := fun (m d a0 a1 : Nat) (F : List HP) => medium_Blank m d someG [0, 0, -1, -1, -1, -1, -1, -1] [(a0, S0), (a1, S1)] 0 (by simp; omega) (F := F)
  have cB1 := fun (m d a0 a1 : Nat) (F : List HP) => medium_Blank m d someG [0, 0, -1, -1, -1, -1, -1, -1] [(a0, S0'), (a1, S1)] 0 (by simp; omega) (F := F)
  have cB2 := fun (m d a0 a1 : Nat) (F : List HP) => medium_Blank m d someG [1, 0, -1, -1, -1, -1, -1, -1] [(a0, S2), (a1, S1)] 0 (by simp; omega) (F := F)
  have cW := fun (m d a0 a1 : Nat) (F : List HP) (p : Option Addr) (n c : Nat) (hb : SlC F p 1 n c ((allB 7).map u8c)) => medium_Write m d someG [0, 0, -1, -1, -1, -1, -1, -1] SD [(a0, S0), (a1, S1)] 161 (allB 7) pD (by simp; omega) hb
  have cR := fun (m d a0 a1 : Nat) (F : List HP) => medium_Read m d someG [0, 0, -1, -1, -1, -1, -1, -1] SD [(a0, S0'), (a1, S1)] 161 (F := F)
  have cN := fun (m d a0 a1 : Nat) (F : List HP) (hg : HalvesC F) => medium_Renew m d someG [0, 0, -1, -1, -1, -1, -1, -1] [(a0, S0'), (a1, S1)] 0 (by simp) (by simp) f6 f7 (F := F)
  have cG := fun (m d a0 a1 : Nat) (F : List HP) => medium_Gen m d someG [1, 0, -1, -1, -1, -1, -1, -1] [a0, a1] 0 (F := F)
  have g1 : genF 2 [1, 0, -1, -1, -1, -1, -1, -1] 0 = 1 := by decide
  simp only [f1, f5, f9, List.map_cons, List.map_nil] at cB0 cB1 cB2
  simp only [allB_len, (f2 _ _).1, (f2 _ _).2, f3, List.map_cons, List.map_nil] at cW
  simp only [(f4 _ _).1, (f4 _ _).2] at cR
  have cR' : ∀ (m d a0 a1 : Nat) (F : List HP), Tr Tryd.prog 21 [.pointer (some ⟨m, 0, none⟩), .int .i64 161].toArray (medP m d [a0, a1] someG [0, 0, -1, -1, -1, -1, -1, -1] :: devP d SD :: devsP [(a0, S0'), (a1, S1)] :: F)
      (fun v L' => ∃ sl, v = .tuple #[sl, .int .i64 0] ∧ L' = vec 141 1 ((allB 7).map u8c) sl :: medP m d [a0, a1] someG [0, 0, -1, -1, -1, -1, -1, -1] :: devP d SD :: devsP [(a0, S0'), (a1, S1)] :: F) := cR
  clear cR
  simp only [List.length_cons, List.length_nil, Nat.zero_add, Nat.reduceAdd, g1] at cG
  have cN' : ∀ (m d a0 a1 : Nat) (F : List HP) (hg : HalvesC F), Tr Tryd.prog 22 [.pointer (some ⟨m, 0, none⟩), .int .i64 0].toArray (medP m d [a0, a1] someG [0, 0, -1, -1, -1, -1, -1, -1] :: devsP [(a0, S0'), (a1, S1)] :: F)
      (fun r L' => r = .int .i64 0 ∧ L' = medP m d [a0, a1] someG [1, 0, -1, -1, -1, -1, -1, -1] :: devsP [(a0, S2), (a1, S1)] :: F) := fun m d a0 a1 F hg => (cN m d a0 a1 F hg).weaken fun v L' ⟨h1, h2⟩ => ⟨_, Ent.refl _, h1, by rw [h2]; show medP m d [a0, a1] someG [1, 0, -1, -1, -1, -1, -1, -1] :: devsP [(a0, wfS (eraseS S0') 0 (labelF 0 1)), (a1, S1)] :: F = _; rw [f8]⟩
  clear cN f1 f2 f4 f5 f9
  refine tr_enter Tryd.func13 rfl Tryd.ntmps13 rfl fun w0 => ?_
  repeat' (first
    | refine swl_op ?_
    | (refine s1_move ?_; refine sc_r (R_move (by rfl)) (by rfl) ?_)
    | (refine s1_assign ?_; refine sc_r (R_assign (by rfl)) (by rfl) ?_)
    | (refine s1_pick ?_; first | refine sc_r (R_pick_t (by rfl) (by rfl)) (by rfl) ?_ | refine sc_r (R_pick_f (by rfl) (by rfl)) (by rfl) ?_)
    | (refine s1_bin ?_; first | refine sc_r (R_eql (by rfl) (by rfl)) (by rfl) ?_ | refine sc_r (R_neq (by rfl) (by rfl)) (by rfl) ?_ | refine sc_r (R_eql_nil (by rfl) (by rfl)) (by rfl) ?_ | refine sc_r (R_eql_str1 (by rfl) (by rfl) (by rfl)) (by rfl) ?_)
    | (refine s1_call ?_; first | (refine sc_c (by rfl) (C_call (by rfl) (by infer_instance) (by rfl) (by rfl) (law21_some)) (by rfl) ?_; rintro _ _ ⟨rfl, rfl⟩) | (refine sc_c (by rfl) (C_call (by rfl) (by infer_instance) (by rfl) (by rfl) (devices_some)) (by rfl) ?_; rintro _ _ ⟨d, a0, a1, sl, r, rl, rfl, rfl⟩; refine swl_know (fun h H => vec_fact (Ent.own (show Ent _ [vec 26 1 ([a0, a1].map ptrc) sl] from by (repeat (first | exact Ent.refl _ | exact Ent.nil | (apply Ent.pick; focus ((repeat (first | exact Rem.here | apply Rem.there)); done)) | apply Ent.drop))) H)) ?_; rintro ⟨pv, cv, rfl, hsl⟩) | (refine sc_c (by rfl) (C_call (by rfl) (by infer_instance) (by rfl) (by rfl) (Tr.ent (Ent.pickC (by infer_instance) (Ent.pickC (by infer_instance) (Ent.refl _))) (cF d a0 a1 _ (by infer_instance) _ _ _ (by infer_instance)))) (by rfl) ?_; rintro _ _ ⟨m, rfl, rfl⟩) | (refine sc_c (by rfl) (C_call (by rfl) (by infer_instance) (by rfl) (by rfl) (Tr.ent (Ent.pickC (by infer_instance) (Ent.pickC (by infer_instance) (Ent.refl _))) (cB0 m d a0 a1 _))) (by rfl) ?_; rintro _ _ ⟨rfl, rfl⟩) | (refine sc_c (by rfl) (C_call (by rfl) (by infer_instance) (by rfl) (by rfl) (Tr.ent (Ent.pickC (by infer_instance) (Ent.pickC (by infer_instance) (Ent.refl _))) (cB1 m d a0 a1 _))) (by rfl) ?_; rintro _ _ ⟨rfl, rfl⟩) | (refine sc_c (by rfl) (C_call (by rfl) (by infer_instance) (by rfl) (by rfl) (Tr.ent (Ent.pickC (by infer_instance) (Ent.pickC (by infer_instance) (Ent.refl _))) (cB2 m d a0 a1 _))) (by rfl) ?_; rintro _ _ ⟨rfl, rfl⟩) | (refine sc_c (by rfl) (C_call (by rfl) (by infer_instance) (by rfl) (by rfl) (law4_All 7)) (by rfl) ?_; rintro _ _ ⟨ba, rfl, hok, rfl⟩) | (refine sc_c (by rfl) (C_call (by rfl) (by infer_instance) (by rfl) (by rfl) (Tr.ent (Ent.pickC (by infer_instance) (Ent.pickC (by infer_instance) (Ent.pickC (by infer_instance) (Ent.refl _)))) (cW m d a0 a1 _ _ _ _ (by infer_instance)))) (by rfl) ?_; rintro _ _ ⟨rfl, rfl⟩) | (refine sc_c (by rfl) (C_call (by rfl) (by infer_instance) (by rfl) (by rfl) (Tr.ent (Ent.pickC (by infer_instance) (Ent.pickC (by infer_instance) (Ent.pickC (by infer_instance) (Ent.refl _)))) (cR' m d a0 a1 _))) (by rfl) ?_; rintro _ _ ⟨sr, rfl, rfl⟩; refine swl_know (fun h H => vec_fact H) ?_; rintro ⟨pr, cr, rfl, hr⟩) | (refine sc_c (by rfl) (C_call (by rfl) (by infer_instance) (by rfl) (by rfl) (Tr.ent (Ent.pickC (by infer_instance) (Ent.pickC (by infer_instance) (Ent.refl _))) (cN' m d a0 a1 _ (by infer_instance)))) (by rfl) ?_; rintro _ _ ⟨rfl, rfl⟩) | (refine sc_c (by rfl) (C_call (by rfl) (by infer_instance) (by rfl) (by rfl) (Tr.ent (Ent.pickC (by infer_instance) (Ent.refl _)) (cG m d a0 a1 _))) (by rfl) ?_; rintro _ _ ⟨rfl, rfl⟩; refine ⟨by (repeat (first | exact Ent.refl _ | exact Ent.nil | (apply Ent.pick; focus ((repeat (first | exact Rem.here | apply Rem.there)); done)) | apply Ent.drop)), ?_⟩))
    | (refine s1_conv ?_; refine sc_r (R_bytes_string (l := allB 7) (by rfl) (by infer_instance)) (by rfl) ?_)
    | (refine s1_any ?_; first | refine sc_r (R_not (by rfl)) (by rfl) ?_ | refine sc_r (R_extract (by rfl) (by rfl)) (by rfl) ?_)
    | refine swl_nil ?_
    | refine sx_next ?_
    | refine sw_seq ?_
    | refine sw_region ?_
    | refine swl_g_on (by rfl) (by rfl) ?_
    | refine sw_cond_false (by rfl) ?_
    | refine sw_ret ?_
    | refine sw_skip ?_
    | refine swh_lt (by rfl) (fun _ _ => wanted_none) ?_
    | refine swh_lt (by rfl) (wanted_on (by rfl) (by rfl)) ?_
    | refine swh_hv (by rfl) (wanted_on (by rfl) (by rfl)) ?_
    | refine swh_nil ?_
    | (apply And.intro; focus ((repeat (first | exact Ent.refl _ | exact Ent.nil | (apply Ent.pick; focus ((repeat (first | exact Rem.here | apply Rem.there)); done)) | apply Ent.drop)); done))
    | (refine sw_draw [(0, true), (1, true), (2, true), (3, true), (4, true), (5, true), (6, true), (7, true), (8, true), (9, true), (10, true), (11, true), (12, true), (13, false), (14, false), (15, true), (16, true), (17, true), (18, true), (19, true), (20, true), (21, true), (22, true), (23, true), (24, true), (25, true), (26, true), (27, true), (28, true), (29, true), (30, true), (31, true), (32, true), (33, true), (34, true), (35, false), (36, true), (37, true), (38, true), (39, true), (40, true), (41, true), (42, true), (43, true), (44, true), (45, true), (46, true)] follows ?_ ?_ ?_; (focus rfl); (focus (decide +kernel)))
    | fail)
  exact sx_ret_of (res1 rfl (ResOne.tmp rfl)) _ ⟨rfl, rfl⟩ (by (repeat (first | exact Ent.refl _ | exact Ent.nil | (apply Ent.pick; focus ((repeat (first | exact Rem.here | apply Rem.there)); done)) | apply Ent.drop)))
end Go.Proofs.YtcpfehldofmipaaDoor
