/-
  Superblocks and labels.
-/
import Derived.Test.YtcpfehldofmipaaDoorBase16
import Derived.Test.YtcpfehldofmipaaDoorAddr
import Derived.Test.YtcpfehldofmipaaDoorPack
namespace Go.Proofs.YtcpfehldofmipaaDoor
open Go Go.SL Go.Proofs

theorem label_num (w v : Int) (u : Int) (hu : IntKind.u64.wrap v = u) {L : List HP} : Tr Tryd.prog 75 [.int .i64 w, .int .i64 v].toArray L (fun r L' => r = .agg (Num.cells ⟨w, u⟩) ∧ L = L') := by
  refine tr_enter Tryd.func75 rfl Tryd.ntmps75 rfl fun w0 => ?_
  repeat' (first
    | refine swl_op ?_
    | (refine s1_move ?_; refine sc_r (R_move (by rfl)) (by rfl) ?_)
    | (refine s1_store ?_; (refine sc_w (by rfl) (W_storeAll (by rfl) (by rfl) (by infer_instance) (by rfl) (by rfl) (by rfl)) (by rfl) ?_; rintro _ _ ⟨rfl, rfl⟩))
    | (refine s1_alloc ?_; (refine sc_w (by rfl) W_allocA (by rfl) ?_; rintro _ _ ⟨_, rfl, rfl⟩))
    | (refine s1_conv ?_; refine sc_r (R_convk (by rfl) hu) (by rfl) ?_)
    | (refine s1_any ?_; refine sc_r (R_build (by rfl) (by rfl)) (by rfl) ?_)
    | refine swl_nil ?_
    | refine sx_next ?_
    | refine sw_seq ?_
    | refine sw_region ?_
    | refine sw_ret ?_
    | fail)
  exact sx_ret_of (res1 rfl (ResOne.cellA (by rfl) (by infer_instance) (by rfl))) L ⟨rfl, rfl⟩ (by (repeat (first | exact Ent.refl _ | exact Ent.nil | (apply Ent.pick; focus ((repeat (first | exact Rem.here | apply Rem.there)); done)) | apply Ent.drop)))

theorem label_seal (l : List Num) (hok : ∀ x ∈ l, x.ok) (h1000 : l.length ≤ 1000) (h0 : 0 < (packF l).length) (h124 : (packF l).length ≤ 124) {L : List HP} {p : Option Addr} {m cp : Nat} {els : List (Array Value)} [HalvesC L] (hl : SlC L p 2 m cp els) (he : els = l.map Num.cells) :
    Tr Tryd.prog 74 [.slice p m cp].toArray L (fun v L' => ∃ s, v = .tuple #[s, .int .i64 0] ∧ L' = vec 5 1 ((sealF (packF l)).map u8c) s :: L) := by
  subst he
  have hf1 : Fact' (((packF l).map u8c).length = (packF l).length) := ⟨by simp⟩
  refine tr_enter Tryd.func74 rfl Tryd.ntmps74 rfl fun w0 => ?_
  repeat' (first
    | refine swl_op ?_
    | (refine s1_move ?_; refine sc_r (R_move (by rfl)) (by rfl) ?_)
    | (refine s1_assign ?_; refine sc_r (R_assign (by rfl)) (by rfl) ?_)
    | (refine s1_bin ?_; refine sc_r (R_neq (by rfl) (by rfl)) (by rfl) ?_)
    | (refine s1_call ?_; first | (refine sc_c (by rfl) (C_call (by rfl) (by infer_instance) (by rfl) (by rfl) (pack_Pack l hok h1000 hl)) (by rfl) ?_; rintro _ _ ⟨vc, rfl, rfl⟩; refine swl_know (fun h H => vec_fact H) ?_; rintro ⟨pc, cc, rfl, hf⟩; rw [List.length_map] at *; obtain ⟨b1, o1, rfl⟩ := hf.ptr (by omega)) | (refine sc_c (by rfl) (C_call (by rfl) (by infer_instance) (by rfl) (by rfl) (crc_Seal (packF l) h124 (by infer_instance))) (by rfl) ?_; rintro _ _ ⟨vc2, rfl, rfl⟩))
    | (refine s1_any ?_; refine sc_r (R_extract (by rfl) (by rfl)) (by rfl) ?_)
    | refine swl_nil ?_
    | refine sx_next ?_
    | refine sw_seq ?_
    | refine sw_region ?_
    | refine sw_cond_false (by rfl) ?_
    | refine sw_ret ?_
    | refine sw_skip ?_
    | fail)
  exact sx_ret_of (res2 rfl (ResOne.tmp rfl) (ResOne.tmp rfl)) _ ⟨_, rfl, rfl⟩ (by (repeat (first | exact Ent.refl _ | exact Ent.nil | (apply Ent.pick; focus ((repeat (first | exact Rem.here | apply Rem.there)); done)) | apply Ent.drop)))

theorem label_create_no (f : Value) {L : List HP} : Tr Tryd.prog 72 [.bool false, f].toArray L (fun v L' => v = .tuple #[.slice none 0 0, .int .i64 1] ∧ L = L') := by
  refine tr_enter Tryd.func72 rfl Tryd.ntmps72 rfl fun w0 => ?_
  repeat' (first
    | refine swl_op ?_
    | (refine s1_move ?_; refine sc_r (R_move (by rfl)) (by rfl) ?_)
    | (refine s1_assign ?_; refine sc_r (R_assign (by rfl)) (by rfl) ?_)
    | (refine s1_any ?_; refine sc_r (R_not (by rfl)) (by rfl) ?_)
    | refine swl_nil ?_
    | refine sx_next ?_
    | refine sw_seq ?_
    | refine sw_region ?_
    | refine sx_past_ret ?_
    | refine sw_cond_true (by rfl) ?_
    | refine sw_ret ?_
    | fail)
  exact sx_ret_of (res2 rfl (ResOne.tmp rfl) (ResOne.tmp rfl)) _ ⟨rfl, rfl⟩ (by (repeat (first | exact Ent.refl _ | exact Ent.nil | (apply Ent.pick; focus ((repeat (first | exact Rem.here | apply Rem.there)); done)) | apply Ent.drop)))
theorem label_create_yes {fid : FuncId} {fi ca : Array Value} (hc : CallC Tryd.prog fid) {L : List HP} {K : List (Array Value)} {args : List Value} (ha : fi.toList ++ [] ++ ca.toList = args) (h : Tr Tryd.prog fid args.toArray L (fun v L' => ∃ s, v = .tuple #[s, .int .i64 0] ∧ L' = vec 5 1 K s :: L)) :
    Tr Tryd.prog 72 [.bool true, .func (.func fid) fi ca].toArray L (fun v L' => ∃ s, v = .tuple #[s, .int .i64 0] ∧ L' = vec 5 1 K s :: L) := by
  refine tr_enter Tryd.func72 rfl Tryd.ntmps72 rfl fun w0 => ?_
  repeat' (first
    | refine swl_op ?_
    | (refine s1_move ?_; refine sc_r (R_move (by rfl)) (by rfl) ?_)
    | (refine s1_assign ?_; refine sc_r (R_assign (by rfl)) (by rfl) ?_)
    | (refine s1_call ?_; (refine sc_c (by rfl) (C_call (by rfl) hc (by rfl) ha h) (by rfl) ?_; rintro _ _ ⟨vc2, rfl, rfl⟩))
    | (refine s1_any ?_; first | refine sc_r (R_not (by rfl)) (by rfl) ?_ | refine sc_r (R_extract (by rfl) (by rfl)) (by rfl) ?_)
    | refine swl_nil ?_
    | refine sx_next ?_
    | refine sw_seq ?_
    | refine sw_region ?_
    | refine sw_cond_false (by rfl) ?_
    | refine sw_ret ?_
    | refine sw_skip ?_
    | fail)
  exact sx_ret_of (res2 rfl (ResOne.tmp rfl) (ResOne.tmp rfl)) _ ⟨_, rfl, rfl⟩ (by (repeat (first | exact Ent.refl _ | exact Ent.nil | (apply Ent.pick; focus ((repeat (first | exact Rem.here | apply Rem.there)); done)) | apply Ent.drop)))

def superN (g : Geo) : List Num := [⟨4, 1751218541⟩, ⟨2, g.disk⟩, ⟨2, g.lines⟩, ⟨1, g.vols⟩, ⟨2, g.segs⟩]
def superF (g : Geo) : List Int := sealF (packF (superN g))
theorem num_ok {w v : Int} (h1 : 1 ≤ w ∧ w ≤ 8) (h : 0 ≤ v ∧ v < 2 ^ (8 * w.toNat)) : Num.ok ⟨w, v⟩ := by
  refine ⟨h1.1, h1.2, fun h8 => ?_⟩
  unfold bShr
  have : min (8 * w).toNat IntKind.u64.bits = 8 * w.toNat := by
    show min (8 * w).toNat 64 = _
    omega
  dsimp only at h8 ⊢
  rw [this]
  rw [Int.fdiv_eq_ediv_of_nonneg _ (Int.pow_nonneg (by omega))]
  exact Int.ediv_eq_zero_of_lt h.1 h.2
theorem superN_ok {g : Geo} (h : mayG g = true) : ∀ x ∈ superN g, x.ok := by
  have h := mayG_is h
  intro x hx
  simp only [superN, List.mem_cons, List.not_mem_nil, or_false] at hx
  rcases hx with rfl | rfl | rfl | rfl | rfl
  · exact num_ok (by omega) (by decide)
  · exact num_ok (by omega) ⟨by omega, by show g.disk < 65536; omega⟩
  · exact num_ok (by omega) ⟨by omega, by show g.lines < 65536; omega⟩
  · exact num_ok (by omega) ⟨by omega, by show g.vols < 256; omega⟩
  · exact num_ok (by omega) ⟨by omega, by show g.segs < 65536; omega⟩
theorem superN_len {g : Geo} (h : mayG g = true) : (packF (superN g)).length = 11 := by
  have := (packF_len (superN_ok h)).1
  simp [superN, sizeN] at this
  simp [superN]; omega

set_option maxHeartbeats 1000000 in
theorem label_Super1 (g : Geo) (hm : mayG g = true) {L : List HP} {b : Nat} {T : TypeId} [HalvesC L] (hb : ReadC L b (.cells g.cells T)) :
    Tr Tryd.prog 73 [.pointer (some ⟨b, 0, none⟩)].toArray L (fun v L' => ∃ s, v = .tuple #[s, .int .i64 0] ∧ L' = vec 5 1 ((superF g).map u8c) s :: L) := by
  refine tr_enter Tryd.func73 rfl Tryd.ntmps73 rfl fun w0 => ?_
  have hg := mayG_is hm
  have hok := superN_ok hm
  have hl := superN_len hm
  unfold Geo.cells at *
  repeat' (first
    | refine swl_op ?_
    | (refine s1_load ?_; refine sc_r (L_load' (by rfl) (by infer_instance) (by rfl)) (by rfl) ?_)
    | (refine s1_fieldAddr ?_; refine sc_r (R_fieldAddr (by rfl)) (by rfl) ?_)
    | (refine s1_assign ?_; refine sc_r (R_assign (by rfl)) (by rfl) ?_)
    | (refine s1_call ?_; first | (refine sc_c (by rfl) (C_call (by rfl) (by infer_instance) (by rfl) (by rfl) (label_num _ _ _ (wrap_u64_of (by omega)))) (by rfl) ?_; rintro _ _ ⟨rfl, rfl⟩) | (refine sc_c (by rfl) (C_call (by rfl) (by infer_instance) (by rfl) (by rfl) (label_seal (superN g) hok (by simp [superN]) (by omega) (by omega) (by infer_instance) (by rfl))) (by rfl) ?_; rintro _ _ ⟨vc2, rfl, rfl⟩))
    | (refine s1_any ?_; first | (refine sc_w (by rfl) (W_buildSliceV (by rfl) (by rfl) (by rfl) (by rfl) (by rfl) (by rfl) (by rfl)) (by rfl) ?_; rintro _ _ ⟨_, rfl, rfl, _, _⟩) | refine sc_r (R_extract (by rfl) (by rfl)) (by rfl) ?_)
    | refine swl_nil ?_
    | refine sx_next ?_
    | refine sw_seq ?_
    | refine sw_region ?_
    | refine sw_ret ?_
    | refine swh_lt (by rfl) (fun _ _ => wanted_none) ?_
    | refine swh_hv (by rfl) (fun _ _ => wanted_none) ?_
    | refine swh_nil ?_
    | (apply And.intro; focus ((repeat (first | exact Ent.refl _ | exact Ent.nil | (apply Ent.pick; focus ((repeat (first | exact Rem.here | apply Rem.there)); done)) | apply Ent.drop)); done))
    | (refine sw_draw [(1, true), (2, true), (4, true), (5, true), (7, true), (8, true), (10, true), (11, true), (0, false), (3, false), (6, false), (9, false), (12, false), (13, false), (14, false), (15, true), (16, true), (17, true), (18, true)] follows ?_ ?_ ?_; (focus rfl); (focus (decide +kernel)))
    | fail)
  exact sx_ret_of (res2 rfl (ResOne.tmp rfl) (ResOne.tmp rfl)) _ ⟨_, rfl, rfl⟩ (by (repeat (first | exact Ent.refl _ | exact Ent.nil | (apply Ent.pick; focus ((repeat (first | exact Rem.here | apply Rem.there)); done)) | apply Ent.drop)))

theorem label_Super (g : Geo) (hm : mayG g = true) {L : List HP} [HalvesC L] :
    Tr Tryd.prog 38 [.agg g.cells].toArray L (fun v L' => ∃ s, v = .tuple #[s, .int .i64 0] ∧ L' = vec 5 1 ((superF g).map u8c) s :: L) := by
  refine tr_enter Tryd.func38 rfl Tryd.ntmps38 rfl fun w0 => ?_
  repeat' (first
    | refine swl_op ?_
    | (refine s1_load ?_; refine sc_r (L_load_all (by rfl) (by infer_instance) (by rfl)) (by rfl) ?_)
    | (refine s1_assign ?_; refine sc_r (R_assign (by rfl)) (by rfl) ?_)
    | (refine s1_call ?_; first | (refine sc_c (by rfl) (C_call (by rfl) (by infer_instance) (by rfl) (by rfl) (addr_May' g _ hm)) (by rfl) ?_; rintro _ _ ⟨rfl, rfl⟩) | (refine sc_c (by rfl) (C_call (by rfl) (by infer_instance) (by rfl) (by rfl) (label_create_yes (by infer_instance) (by rfl) (label_Super1 g hm (by infer_instance)))) (by rfl) ?_; rintro _ _ ⟨vc2, rfl, rfl⟩))
    | (refine s1_box ?_; (refine sc_w (by rfl) (W_boxA (by rfl)) (by rfl) ?_; rintro _ _ ⟨_, rfl, rfl⟩))
    | (refine s1_any ?_; first | refine sc_r (R_extract (by rfl) (by rfl)) (by rfl) ?_ | refine sc_r (R_makeFunc (by rfl) (by rfl)) (by rfl) ?_)
    | refine swl_nil ?_
    | refine sx_next ?_
    | refine sw_seq ?_
    | refine sw_region ?_
    | refine sw_ret ?_
    | fail)
  exact sx_ret_of (res2 rfl (ResOne.tmp rfl) (ResOne.tmp rfl)) _ ⟨_, rfl, rfl⟩ (by (repeat (first | exact Ent.refl _ | exact Ent.nil | (apply Ent.pick; focus ((repeat (first | exact Rem.here | apply Rem.there)); done)) | apply Ent.drop)))

def labMay (vol gen : Int) : Bool := decide (0 ≤ vol ∧ vol < 8 ∧ 0 ≤ gen ∧ gen ≤ 4294967295)
theorem label_may (vol gen : Int) {L : List HP} : Tr Tryd.prog 79 [.int .i64 vol, .int .i64 gen].toArray L (fun v L' => v = .bool (labMay vol gen) ∧ L = L') := by
  refine tr_enter Tryd.func79 rfl Tryd.ntmps79 rfl fun w0 => ?_
  repeat' (first
    | refine swl_op ?_
    | (refine s1_move ?_; refine sc_r (R_move (by rfl)) (by rfl) ?_)
    | (refine s1_assign ?_; refine sc_r (R_assign (by rfl)) (by rfl) ?_)
    | (refine s1_pick ?_; first | refine sc_r (R_pick_t (by rfl) (by rfl)) (by rfl) ?_ | refine sc_r (R_pick_f (by rfl) (by rfl)) (by rfl) ?_)
    | (refine s1_bin ?_; first | refine sc_r (R_lss (by rfl) (by rfl)) (by rfl) ?_ | refine sc_r (R_leq (by rfl) (by rfl)) (by rfl) ?_ | refine sc_r (R_geq (by rfl) (by rfl)) (by rfl) ?_)
    | refine swl_nil ?_
    | refine sx_next ?_
    | refine sw_seq ?_
    | refine sw_region ?_
    | refine swl_g_on (by rfl) (by rfl) ?_
    | refine swl_g_off (by rfl) (by rfl) (by rfl) (by rfl) ?_
    | refine swl_g_dec (by rfl) (by rfl) (fun hp => ?_) (fun hp => ?_)
    | refine sw_ret ?_
    | fail)
  all_goals refine sx_ret_of (res1 rfl (ResOne.tmp rfl)) L ⟨?_, rfl⟩ (by (repeat (first | exact Ent.refl _ | exact Ent.nil | (apply Ent.pick; focus ((repeat (first | exact Rem.here | apply Rem.there)); done)) | apply Ent.drop)))
  all_goals (refine congrArg Value.bool ?_; simp only [labMay]; grind)
theorem label_may' (vol gen : Int) (b : Bool) (h : labMay vol gen = b) {L : List HP} : Tr Tryd.prog 79 [.int .i64 vol, .int .i64 gen].toArray L (fun v L' => v = .bool b ∧ L = L') := h ▸ label_may vol gen
def labelN (vol gen : Int) : List Num := [⟨4, 1752592236⟩, ⟨1, vol⟩, ⟨4, gen⟩]
def labelF (vol gen : Int) : List Int := sealF (packF (labelN vol gen))
theorem labelN_ok {vol gen : Int} (h : labMay vol gen = true) : ∀ x ∈ labelN vol gen, x.ok := by
  simp only [labMay, decide_eq_true_eq] at h
  intro x hx
  simp only [labelN, List.mem_cons, List.not_mem_nil, or_false] at hx
  rcases hx with rfl | rfl | rfl
  · exact num_ok (by omega) (by decide)
  · exact num_ok (by omega) ⟨by omega, by show vol < 256; omega⟩
  · exact num_ok (by omega) ⟨by omega, by show gen < 4294967296; omega⟩
theorem labelN_len {vol gen : Int} (h : labMay vol gen = true) : (packF (labelN vol gen)).length = 9 := by
  have := (packF_len (labelN_ok h)).1
  simp [labelN, sizeN] at this
  simp [labelN]; omega
set_option maxHeartbeats 1000000 in
theorem label_Label1 (vol gen : Int) (hm : labMay vol gen = true) {L : List HP} {b c : Nat} {T T' : TypeId} [HalvesC L] (hb : ReadC L b (.cells #[.int .i64 vol] T)) (hc : ReadC L c (.cells #[.int .i64 gen] T')) :
    Tr Tryd.prog 80 [.pointer (some ⟨b, 0, none⟩), .pointer (some ⟨c, 0, none⟩)].toArray L (fun v L' => ∃ s, v = .tuple #[s, .int .i64 0] ∧ L' = vec 5 1 ((labelF vol gen).map u8c) s :: L) := by
  refine tr_enter Tryd.func80 rfl Tryd.ntmps80 rfl fun w0 => ?_
  have hok := labelN_ok hm
  have hl := labelN_len hm
  simp only [labMay, decide_eq_true_eq] at hm
  repeat' (first
    | refine swl_op ?_
    | (refine s1_load ?_; refine sc_r (L_load' (by rfl) (by infer_instance) (by rfl)) (by rfl) ?_)
    | (refine s1_assign ?_; refine sc_r (R_assign (by rfl)) (by rfl) ?_)
    | (refine s1_call ?_; first | (refine sc_c (by rfl) (C_call (by rfl) (by infer_instance) (by rfl) (by rfl) (label_num _ _ _ (wrap_u64_of (by omega)))) (by rfl) ?_; rintro _ _ ⟨rfl, rfl⟩) | (refine sc_c (by rfl) (C_call (by rfl) (by infer_instance) (by rfl) (by rfl) (label_seal (labelN vol gen) hok (by simp [labelN]) (by omega) (by omega) (by infer_instance) (by rfl))) (by rfl) ?_; rintro _ _ ⟨vc2, rfl, rfl⟩))
    | (refine s1_any ?_; first | (refine sc_w (by rfl) (W_buildSliceV (by rfl) (by rfl) (by rfl) (by rfl) (by rfl) (by rfl) (by rfl)) (by rfl) ?_; rintro _ _ ⟨_, rfl, rfl, _, _⟩) | refine sc_r (R_extract (by rfl) (by rfl)) (by rfl) ?_)
    | refine swl_nil ?_
    | refine sx_next ?_
    | refine sw_seq ?_
    | refine sw_region ?_
    | refine sw_ret ?_
    | refine swh_lt (by rfl) (fun _ _ => wanted_none) ?_
    | refine swh_hv (by rfl) (fun _ _ => wanted_none) ?_
    | refine swh_nil ?_
    | (apply And.intro; focus ((repeat (first | exact Ent.refl _ | exact Ent.nil | (apply Ent.pick; focus ((repeat (first | exact Rem.here | apply Rem.there)); done)) | apply Ent.drop)); done))
    | (refine sw_draw [(1, true), (3, true), (0, false), (2, false), (4, false), (5, false), (6, false), (7, true), (8, true), (9, true), (10, true)] follows ?_ ?_ ?_; (focus rfl); (focus (decide +kernel)))
    | fail)
  exact sx_ret_of (res2 rfl (ResOne.tmp rfl) (ResOne.tmp rfl)) _ ⟨_, rfl, rfl⟩ (by (repeat (first | exact Ent.refl _ | exact Ent.nil | (apply Ent.pick; focus ((repeat (first | exact Rem.here | apply Rem.there)); done)) | apply Ent.drop)))
theorem label_Label (vol gen : Int) (hm : labMay vol gen = true) {L : List HP} [HalvesC L] :
    Tr Tryd.prog 44 [.int .i64 vol, .int .i64 gen].toArray L (fun v L' => ∃ s, v = .tuple #[s, .int .i64 0] ∧ L' = vec 5 1 ((labelF vol gen).map u8c) s :: L) := by
  refine tr_enter Tryd.func44 rfl Tryd.ntmps44 rfl fun w0 => ?_
  repeat' (first
    | refine swl_op ?_
    | (refine s1_load ?_; refine sc_r (L_load' (by rfl) (by infer_instance) (by rfl)) (by rfl) ?_)
    | (refine s1_assign ?_; refine sc_r (R_assign (by rfl)) (by rfl) ?_)
    | (refine s1_call ?_; first | (refine sc_c (by rfl) (C_call (by rfl) (by infer_instance) (by rfl) (by rfl) (label_may' vol gen _ hm)) (by rfl) ?_; rintro _ _ ⟨rfl, rfl⟩) | (refine sc_c (by rfl) (C_call (by rfl) (by infer_instance) (by rfl) (by rfl) (label_create_yes (by infer_instance) (by rfl) (label_Label1 vol gen hm (by infer_instance) (by infer_instance)))) (by rfl) ?_; rintro _ _ ⟨vc2, rfl, rfl⟩))
    | (refine s1_box ?_; (refine sc_w (by rfl) (W_box1 (by rfl) (by rfl)) (by rfl) ?_; rintro _ _ ⟨_, rfl, rfl⟩))
    | (refine s1_any ?_; first | refine sc_r (R_extract (by rfl) (by rfl)) (by rfl) ?_ | refine sc_r (R_makeFunc (by rfl) (by rfl)) (by rfl) ?_)
    | refine swl_nil ?_
    | refine sx_next ?_
    | refine sw_seq ?_
    | refine sw_region ?_
    | refine sw_ret ?_
    | fail)
  exact sx_ret_of (res2 rfl (ResOne.tmp rfl) (ResOne.tmp rfl)) _ ⟨_, rfl, rfl⟩ (by (repeat (first | exact Ent.refl _ | exact Ent.nil | (apply Ent.pick; focus ((repeat (first | exact Rem.here | apply Rem.there)); done)) | apply Ent.drop)))
theorem label_Label_no (vol gen : Int) (hm : labMay vol gen = false) {L : List HP} [HalvesC L] :
    Tr Tryd.prog 44 [.int .i64 vol, .int .i64 gen].toArray L (fun v L' => v = .tuple #[.slice none 0 0, .int .i64 1] ∧ L = L') := by
  refine tr_enter Tryd.func44 rfl Tryd.ntmps44 rfl fun w0 => ?_
  repeat' (first
    | refine swl_op ?_
    | (refine s1_load ?_; refine sc_r (L_load' (by rfl) (by infer_instance) (by rfl)) (by rfl) ?_)
    | (refine s1_assign ?_; refine sc_r (R_assign (by rfl)) (by rfl) ?_)
    | (refine s1_call ?_; first | (refine sc_c (by rfl) (C_call (by rfl) (by infer_instance) (by rfl) (by rfl) (label_may' vol gen _ hm)) (by rfl) ?_; rintro _ _ ⟨rfl, rfl⟩) | (refine sc_c (by rfl) (C_call (by rfl) (by infer_instance) (by rfl) (by rfl) (label_create_no _)) (by rfl) ?_; rintro _ _ ⟨rfl, rfl⟩))
    | (refine s1_box ?_; (refine sc_w (by rfl) (W_box1 (by rfl) (by rfl)) (by rfl) ?_; rintro _ _ ⟨_, rfl, rfl⟩))
    | (refine s1_any ?_; first | refine sc_r (R_extract (by rfl) (by rfl)) (by rfl) ?_ | refine sc_r (R_makeFunc (by rfl) (by rfl)) (by rfl) ?_)
    | refine swl_nil ?_
    | refine sx_next ?_
    | refine sw_seq ?_
    | refine sw_region ?_
    | refine sw_ret ?_
    | fail)
  exact sx_ret_of (res2 rfl (ResOne.tmp rfl) (ResOne.tmp rfl)) _ ⟨rfl, rfl⟩ (by (repeat (first | exact Ent.refl _ | exact Ent.nil | (apply Ent.pick; focus ((repeat (first | exact Rem.here | apply Rem.there)); done)) | apply Ent.drop)))

def readF (b : List Int) (mark : Int) (ws : List Int) : List Int × Int :=
  if heldF b then (if getN 0 (b.take 4) = mark then (if clearF (b.take 124) (4 + ws.sum) then ((unpackF ((b.take 124).drop 4) ws).map IntKind.i64.wrap, 0) else ([], 3)) else ([], 3)) else ([], 5)
theorem crc_Held' (l : List Int) (t : Bool) (h : heldF l = t) {L : List HP} {p : Option Addr} {n c : Nat} [HalvesC L] (hl : SlC L p 1 n c (l.map u8c)) :
    Tr Tryd.prog 102 [.slice p n c].toArray L (fun v L' => v = .bool t ∧ L = L') := h ▸ crc_Held l hl
theorem pack_Clear' (l : List Int) (k : Int) (t : Bool) (h : clearF l k = t) {L : List HP} {p : Option Addr} {n c : Nat} (hl : SlC L p 1 n c (l.map u8c)) :
    Tr Tryd.prog 56 [.slice p n c, .int .i64 k].toArray L (fun v L' => v = .bool t ∧ L = L') := h ▸ pack_Clear l k hl
theorem pack_Unpack' (b ws : List Int) {els : List (Array Value)} (hok : ∀ x ∈ ws, 1 ≤ x ∧ x ≤ 8) (h1000 : ws.length ≤ 1000) (hroom : ws.sum ≤ b.length) {L : List HP} {p q : Option Addr} {n c m cp : Nat} (hb : SlC L p 1 n c (b.map u8c)) (hw : SlC L q 1 m cp els) (he : els = ws.map i64c) :
    Tr Tryd.prog 103 [.slice p n c, .slice q m cp].toArray L (fun v L' => ∃ s, v = .tuple #[s, .int .i64 0] ∧ L' = vec 133 1 ((unpackF b ws).map u64c) s :: L) := by
  subst he; exact pack_Unpack b ws hok h1000 hroom hb hw

set_option maxHeartbeats 4000000 in
theorem label_read (b : List Int) (mark : Int) (ws : List Int) (hok : ∀ x ∈ ws, 1 ≤ x ∧ x ≤ 8) (h1000 : ws.length ≤ 15) {L : List HP} {p q : Option Addr} {n c m cp : Nat} {els : List (Array Value)} [HalvesC L] (hb : SlC L p 1 n c (b.map u8c)) (hw : SlC L q 1 m cp els) (he : els = ws.map i64c) :
    Tr Tryd.prog 82 [.slice p n c, .int .u64 mark, .slice q m cp].toArray L (fun v L' => ∃ s, v = .tuple #[s, .int .i64 (readF b mark ws).2] ∧ L' = vec 3 1 ((readF b mark ws).1.map i64c) s :: L) := by
  subst he
  have hlen : b.length = n := by simpa using hb.len
  have hlenw : ws.length = m := by simpa using hw.len
  refine tr_enter Tryd.func82 rfl Tryd.ntmps82 rfl fun w0 => ?_
  unfold readF
  cases hh : heldF b
  · repeat' (first
    | refine swl_op ?_
    | (refine s1_move ?_; refine sc_r (R_move (by rfl)) (by rfl) ?_)
    | (refine s1_assign ?_; refine sc_r (R_assign (by rfl)) (by rfl) ?_)
    | (refine s1_call ?_; (refine sc_c (by rfl) (C_call (by rfl) (by infer_instance) (by rfl) (by rfl) (crc_Held' b _ hh hb)) (by rfl) ?_; rintro _ _ ⟨rfl, rfl⟩))
    | (refine s1_any ?_; refine sc_r (R_not (by rfl)) (by rfl) ?_)
    | refine swl_nil ?_
    | refine sx_next ?_
    | refine sw_seq ?_
    | refine sw_region ?_
    | refine sx_past_ret ?_
    | refine sw_cond_true (by rfl) ?_
    | refine sw_ret ?_
    | fail)
    exact sx_ret_of (res2 rfl (ResOne.tmp rfl) (ResOne.tmp rfl)) _ ⟨_, rfl, rfl⟩ (by (repeat (first | apply Ent.drop | exact Ent.vec_nil)))
  · have h128 : n = 128 := by simp only [heldF, decide_eq_true_eq] at hh; omega
    subst h128
    rw [if_pos rfl]
    have hle := hb.le
    obtain ⟨b0, o0, rfl⟩ := hb.ptr (by omega)
    have hsum := sum_bd ws hok
    have hU1 := fun (L : List HP) (hb : SlC L (some ⟨b0, o0, none⟩) 1 128 c (b.map u8c)) (q : Option Addr) (m cp : Nat) (els : List (Array Value)) (hw : SlC L q 1 m cp els) (he : els = [4].map i64c) => pack_Unpack' b [4] (by simp) (by simp) (by simp; omega) hb hw he
    rw [show unpackF b [4] = [getN 0 (b.take 4)] from rfl] at hU1
    have e1 : ([getN 0 (b.take 4)].map u64c).length = 1 := rfl
    have hf1 : Fact' (([getN 0 (b.take 4)].map u64c).length = 1) := ⟨rfl⟩
    by_cases hm : getN 0 (b.take 4) = mark
    · rw [if_pos hm]
      have hbl : ((b.take 124).drop 4).length = 120 := by simp; omega
      have hb2 : ∀ (L : List HP), SlC L (some ⟨b0, o0, none⟩) 1 128 c (b.map u8c) → SlC L (some ⟨b0, o0 + 4 * 1, none⟩) 1 120 (c - 4) (((b.take 124).drop 4).map u8c) := fun L h => by
        have := h.sub 4 124 (by omega) (by omega)
        rwa [← List.map_take, ← List.map_drop] at this
      have hb3 : ∀ (L : List HP), SlC L (some ⟨b0, o0, none⟩) 1 128 c (b.map u8c) → SlC L (some ⟨b0, o0, none⟩) 1 124 c ((b.take 124).map u8c) := fun L h => by
        have := h.take 124 (by omega)
        rwa [← List.map_take] at this
      have hU2 := fun (L : List HP) (hb : SlC L (some ⟨b0, o0, none⟩) 1 128 c (b.map u8c)) (hw : SlC L q 1 m cp (ws.map i64c)) => pack_Unpack' ((b.take 124).drop 4) ws hok (by omega) (by omega) (hb2 L hb) hw rfl
      have hul := unpackF_len ws ((b.take 124).drop 4)
      generalize unpackF ((b.take 124).drop 4) ws = U at *
      have hf2 : Fact' ((U.map u64c).length = U.length) := ⟨by simp⟩
      repeat' (first
    | refine swl_op ?_
    | (refine s1_move ?_; refine sc_r (R_move (by rfl)) (by rfl) ?_)
    | (refine s1_load ?_; refine sc_r (L_load_el1 (by rfl) (by infer_instance) (by omega) (by first | assumption | rfl)) (by rfl) ?_)
    | (refine s1_assign ?_; refine sc_r (R_assign (by rfl)) (by rfl) ?_)
    | (refine s1_pick ?_; refine sc_r (R_pick_f (by rfl) (by rfl)) (by rfl) ?_)
    | (refine s1_bin ?_; refine sc_r (R_neq (by rfl) (by rfl)) (by rfl) ?_)
    | (refine s1_call ?_; first | (refine sc_c (by rfl) (C_call (by rfl) (by infer_instance) (by rfl) (by rfl) (crc_Held' b _ hh hb)) (by rfl) ?_; rintro _ _ ⟨rfl, rfl⟩) | (refine sc_c (by rfl) (C_call (by rfl) (by infer_instance) (by rfl) (by rfl) (hU1 _ (by infer_instance) _ _ _ _ (by infer_instance) (by rfl))) (by rfl) ?_; rintro _ _ ⟨vc, rfl, rfl⟩; refine swl_know (fun h H => vec_fact H) ?_; rintro ⟨pc, cc, rfl, hf⟩; rw [e1] at hf ⊢; obtain ⟨b1, o1, rfl⟩ := hf.ptr (by omega)) | (refine sc_c (by rfl) (C_call (by rfl) (by infer_instance) (by rfl) (by rfl) (hU2 _ (by infer_instance) (by infer_instance))) (by rfl) ?_; rintro _ _ ⟨vc2, rfl, rfl⟩; refine swl_know (fun h H => vec_fact H) ?_; rintro ⟨pc2, cc2, rfl, hf22⟩; rw [List.length_map] at *) | refine sc_r (R_len (by rfl)) (by rfl) ?_)
    | (refine s1_indexAddr ?_; refine sc_r (R_indexAddr (by rfl) (by rfl) (by omega)) (by rfl) ?_)
    | (refine s1_slice ?_; refine sc_r (R_slice_lh (by rfl) (by rfl) (by rfl) (by omega)) (by rfl) ?_)
    | (refine s1_any ?_; first | (refine sc_w (by rfl) (W_buildSliceV (by rfl) (by rfl) (by rfl) (by rfl) (by rfl) (by rfl) (by rfl)) (by rfl) ?_; rintro _ _ ⟨_, rfl, rfl, _, _⟩) | refine sc_r (R_not (by rfl)) (by rfl) ?_ | refine sc_r (R_extract (by rfl) (by rfl)) (by rfl) ?_ | (refine sc_w (by rfl) (W_makeSlice (n' := 0) (c' := U.length) (zc := i64c 0) (by rfl) (by rfl) (by rfl) (by rfl) (by rfl) (by omega) (by omega)) (by rfl) ?_; rintro _ _ ⟨b5, rfl, hok0, rfl⟩))
    | refine swl_nil ?_
    | refine sx_next ?_
    | refine sw_seq ?_
    | refine sw_region ?_
    | refine sw_block ?_
    | refine swl_g_on (by rfl) (by rfl) ?_
    | refine sw_cond_false (by rfl) ?_
    | refine sw_cond_npos (by rfl) (by first | assumption | omega) ?_
    | refine sw_skip ?_
    | fail)
      refine sw_loop (γ := Nat × Value) (fun g => U.length - g.1) (fun g => [(0, .slice (some ⟨b0, o0, none⟩) 128 c), (2, .slice q m cp), (11, .int .i64 (4 + (ws.take g.1).sum)), (12, g.2), (45, .slice pc2 U.length cc2), (46, .int .i64 U.length), (47, .int .i64 g.1)])
        (fun g => vec 3 1 (((U.take g.1).map IntKind.i64.wrap).map i64c) g.2 :: vec 133 1 (U.map u64c) (.slice pc2 U.length cc2) :: L) (fun g => g.1 ≤ U.length) (0, .slice (some ⟨b5, 0, none⟩) 0 U.length) (by simp)
        (subE.cons rfl (subE.cons rfl (subE.cons rfl (subE.cons rfl (subE.cons rfl (subE.cons rfl (subE.cons rfl subE.nil))))))) (by (repeat (first | exact Ent.refl _ | exact Ent.nil | (apply Ent.pick; focus ((repeat (first | exact Rem.here | apply Rem.there)); done)) | apply Ent.drop))) ?_
      rintro ⟨g, s⟩ hg
      dsimp only at hg ⊢
      by_cases hlt : g < U.length
      · obtain ⟨b2, o2, rfl⟩ := hf22.ptr (by omega)
        obtain ⟨b3, o3, rfl⟩ := hw.ptr (by omega)
        have hg1 : g < ws.length := by omega
        have he1 := i64_get hg1
        have he2 : (U.map u64c).getD g #[] = #[.int .u64 U[g]] := by simp [hlt, u64c]
        have hts := List.take_succ_eq_append_getElem hg1
        have htu := List.take_succ_eq_append_getElem hlt
        have hx := hok ws[g] (List.getElem_mem hg1)
        have hsg := sum_bd (ws.take g) (fun x hx => hok x (List.mem_of_mem_take hx))
        have hle2 := sum_take_le ws hok g
        generalize ws[g] = x at *
        generalize U[g] = u at *
        have hx' : (ws.take (g + 1)).sum = (ws.take g).sum + x := by rw [hts]; simp
        generalize (ws.take g).sum = at0 at *
        have hll : (((U.take g).map IntKind.i64.wrap).map i64c).length ≤ 100 := by simp; omega
        repeat' (first
    | refine swl_op ?_
    | (refine s1_move ?_; refine sc_r (R_move (by rfl)) (by rfl) ?_)
    | (refine s1_load ?_; refine sc_r (L_load_el1 (by rfl) (by infer_instance) (by omega) (by first | assumption | rfl)) (by rfl) ?_)
    | (refine s1_assign ?_; refine sc_r (R_assign (by rfl)) (by rfl) ?_)
    | (refine s1_bin ?_; first | refine sc_r (R_lss (by rfl) (by rfl)) (by rfl) ?_ | refine sc_r (R_add64 (by rfl) (by rfl) (by omega)) (by rfl) ?_)
    | (refine s1_call ?_; (refine sc_w (by rfl) (W_append1 (by rfl) (by rfl) (by focus ((repeat (first | exact Rem.here | apply Rem.there)); done)) (by infer_instance) (by rfl) (by rfl) (by first | assumption | omega)) (by rfl) ?_; rintro _ _ rfl))
    | (refine s1_indexAddr ?_; refine sc_r (R_indexAddr (by rfl) (by rfl) (by omega)) (by rfl) ?_)
    | (refine s1_conv ?_; refine sc_r (R_conv (by rfl)) (by rfl) ?_)
    | (refine s1_any ?_; (refine sc_w (by rfl) (W_buildSlice1s (by rfl) (by rfl)) (by rfl) ?_; rintro _ _ ⟨_, rfl, rfl⟩))
    | refine swl_nil ?_
    | refine sx_next ?_
    | refine sw_seq ?_
    | refine sw_region ?_
    | refine sw_block ?_
    | refine sx_block_normal ?_
    | refine sw_cond_pos (by rfl) (by first | assumption | omega) ?_
    | refine sw_skip ?_
    | fail)
        rename_i vv
        refine sx_back (g + 1, vv) (by simp only; omega) (by simp only; omega) ?_ ?_
        · rw [hx', ← Int.add_assoc]; exact (subE.cons rfl (subE.cons rfl (subE.cons rfl (subE.cons rfl (subE.cons rfl (subE.cons rfl (subE.cons rfl subE.nil)))))))
        · dsimp only
          rw [htu, List.map_append, List.map_append]
          (repeat (first | exact Ent.refl _ | exact Ent.nil | (apply Ent.pick; focus ((repeat (first | exact Rem.here | apply Rem.there)); done)) | apply Ent.drop))
      · rw [List.take_of_length_le (show U.length ≤ g by omega), List.take_of_length_le (show ws.length ≤ g by omega)]
        cases hcl : clearF (b.take 124) (4 + ws.sum)
        · repeat' (first
    | refine swl_op ?_
    | (refine s1_move ?_; refine sc_r (R_move (by rfl)) (by rfl) ?_)
    | (refine s1_assign ?_; refine sc_r (R_assign (by rfl)) (by rfl) ?_)
    | (refine s1_bin ?_; refine sc_r (R_lss (by rfl) (by rfl)) (by rfl) ?_)
    | (refine s1_call ?_; (refine sc_c (by rfl) (C_call (by rfl) (by infer_instance) (by rfl) (by rfl) (pack_Clear' _ _ _ hcl (hb3 _ (by infer_instance)))) (by rfl) ?_; rintro _ _ ⟨rfl, rfl⟩))
    | (refine s1_slice ?_; refine sc_r (R_slice_h (by rfl) (by rfl) (by omega)) (by rfl) ?_)
    | (refine s1_any ?_; refine sc_r (R_not (by rfl)) (by rfl) ?_)
    | refine swl_nil ?_
    | refine sx_next ?_
    | refine sw_seq ?_
    | refine sw_region ?_
    | refine sx_past_ret ?_
    | refine sx_past_exit ?_
    | refine sx_block_here ?_
    | refine sw_cond_true (by rfl) ?_
    | refine sw_cond_neg (by rfl) (by first | assumption | omega) ?_
    | refine sw_ret ?_
    | refine sw_exit ?_
    | fail)
          exact sx_ret_of (res2 rfl (ResOne.tmp rfl) (ResOne.tmp rfl)) _ ⟨_, rfl, rfl⟩ (by (repeat (first | apply Ent.drop | exact Ent.vec_nil)))
        · repeat' (first
    | refine swl_op ?_
    | (refine s1_move ?_; refine sc_r (R_move (by rfl)) (by rfl) ?_)
    | (refine s1_assign ?_; refine sc_r (R_assign (by rfl)) (by rfl) ?_)
    | (refine s1_bin ?_; refine sc_r (R_lss (by rfl) (by rfl)) (by rfl) ?_)
    | (refine s1_call ?_; (refine sc_c (by rfl) (C_call (by rfl) (by infer_instance) (by rfl) (by rfl) (pack_Clear' _ _ _ hcl (hb3 _ (by infer_instance)))) (by rfl) ?_; rintro _ _ ⟨rfl, rfl⟩))
    | (refine s1_slice ?_; refine sc_r (R_slice_h (by rfl) (by rfl) (by omega)) (by rfl) ?_)
    | (refine s1_any ?_; refine sc_r (R_not (by rfl)) (by rfl) ?_)
    | refine swl_nil ?_
    | refine sx_next ?_
    | refine sw_seq ?_
    | refine sw_region ?_
    | refine sx_past_exit ?_
    | refine sx_block_here ?_
    | refine sw_cond_false (by rfl) ?_
    | refine sw_cond_neg (by rfl) (by first | assumption | omega) ?_
    | refine sw_ret ?_
    | refine sw_exit ?_
    | refine sw_skip ?_
    | fail)
          exact sx_ret_of (res2 rfl (ResOne.tmp rfl) (ResOne.tmp rfl)) _ ⟨_, rfl, rfl⟩ (by (repeat (first | exact Ent.refl _ | exact Ent.nil | (apply Ent.pick; focus ((repeat (first | exact Rem.here | apply Rem.there)); done)) | apply Ent.drop)))
    · rw [if_neg hm]
      repeat' (first
    | refine swl_op ?_
    | (refine s1_move ?_; refine sc_r (R_move (by rfl)) (by rfl) ?_)
    | (refine s1_load ?_; refine sc_r (L_load_el1 (by rfl) (by infer_instance) (by omega) (by first | assumption | rfl)) (by rfl) ?_)
    | (refine s1_assign ?_; refine sc_r (R_assign (by rfl)) (by rfl) ?_)
    | (refine s1_pick ?_; refine sc_r (R_pick_f (by rfl) (by rfl)) (by rfl) ?_)
    | (refine s1_bin ?_; refine sc_r (R_neq (by rfl) (by rfl)) (by rfl) ?_)
    | (refine s1_call ?_; first | (refine sc_c (by rfl) (C_call (by rfl) (by infer_instance) (by rfl) (by rfl) (crc_Held' b _ hh hb)) (by rfl) ?_; rintro _ _ ⟨rfl, rfl⟩) | (refine sc_c (by rfl) (C_call (by rfl) (by infer_instance) (by rfl) (by rfl) (hU1 _ (by infer_instance) _ _ _ _ (by infer_instance) (by rfl))) (by rfl) ?_; rintro _ _ ⟨vc, rfl, rfl⟩; refine swl_know (fun h H => vec_fact H) ?_; rintro ⟨pc, cc, rfl, hf⟩; rw [e1] at hf ⊢; obtain ⟨b1, o1, rfl⟩ := hf.ptr (by omega)))
    | (refine s1_indexAddr ?_; refine sc_r (R_indexAddr (by rfl) (by rfl) (by omega)) (by rfl) ?_)
    | (refine s1_any ?_; first | (refine sc_w (by rfl) (W_buildSliceV (by rfl) (by rfl) (by rfl) (by rfl) (by rfl) (by rfl) (by rfl)) (by rfl) ?_; rintro _ _ ⟨_, rfl, rfl, _, _⟩) | refine sc_r (R_not (by rfl)) (by rfl) ?_ | refine sc_r (R_extract (by rfl) (by rfl)) (by rfl) ?_)
    | refine swl_nil ?_
    | refine sx_next ?_
    | refine sw_seq ?_
    | refine sw_region ?_
    | refine swl_g_on (by rfl) (by rfl) ?_
    | refine sx_past_ret ?_
    | refine sw_cond_false (by rfl) ?_
    | refine sw_cond_nneg (by rfl) (by first | assumption | omega) ?_
    | refine sw_ret ?_
    | refine sw_skip ?_
    | fail)
      exact sx_ret_of (res2 rfl (ResOne.tmp rfl) (ResOne.tmp rfl)) _ ⟨_, rfl, rfl⟩ (by (repeat (first | apply Ent.drop | exact Ent.vec_nil)))

theorem readF_len {b : List Int} {mark : Int} {ws : List Int} (h : (readF b mark ws).2 = 0) : (readF b mark ws).1.length = ws.length := by
  unfold readF at h ⊢
  by_cases h1 : heldF b = true <;> by_cases h2 : getN 0 (b.take 4) = mark <;> by_cases h3 : clearF (b.take 124) (4 + ws.sum) = true <;> simp_all [unpackF_len]
def readSuperF (b : List Int) : Geo × Int :=
  let r := readF b 1751218541 [2, 2, 1, 2]
  if r.2 = 0 then (let g : Geo := ⟨r.1.getD 0 0, r.1.getD 1 0, r.1.getD 2 0, r.1.getD 3 0⟩; if mayG g then (g, 0) else (⟨0, 0, 0, 0⟩, 3)) else (⟨0, 0, 0, 0⟩, r.2)
def readLabelF (b : List Int) : Int × Int × Int :=
  let r := readF b 1752592236 [1, 4]
  if r.2 = 0 then (if labMay (r.1.getD 0 0) (r.1.getD 1 0) then (r.1.getD 0 0, r.1.getD 1 0, 0) else (0, 0, 3)) else (0, 0, r.2)

theorem list4 {l : List Int} (h : l.length = 4) : ∃ a b c d, l = [a, b, c, d] := by
  match l, h with
  | [a, b, c, d], _ => exact ⟨a, b, c, d, rfl⟩
theorem list2 {l : List Int} (h : l.length = 2) : ∃ a b, l = [a, b] := by
  match l, h with
  | [a, b], _ => exact ⟨a, b, rfl⟩

set_option maxHeartbeats 1000000 in
theorem label_ReadSuper (b : List Int) {L : List HP} {p : Option Addr} {n c : Nat} [HalvesC L] (hb : SlC L p 1 n c (b.map u8c)) :
    Tr Tryd.prog 47 [.slice p n c].toArray L (fun v L' => v = .tuple #[.agg (readSuperF b).1.cells, .int .i64 (readSuperF b).2] ∧ L = L') := by
  refine tr_enter Tryd.func47 rfl Tryd.ntmps47 rfl fun w0 => ?_
  have hR := fun (L : List HP) (hg : HalvesC L) (hb : SlC L p 1 n c (b.map u8c)) (q : Option Addr) (m cp : Nat) (els : List (Array Value)) (hw : SlC L q 1 m cp els) (he : els = [2, 2, 1, 2].map i64c) => label_read b 1751218541 [2, 2, 1, 2] (by simp) (by simp) hb hw he
  have hl := readF_len (b := b) (mark := 1751218541) (ws := [2, 2, 1, 2])
  unfold readSuperF
  generalize readF b 1751218541 [2, 2, 1, 2] = r at *
  obtain ⟨r1, r2⟩ := r
  dsimp only at hR hl ⊢
  by_cases h0 : r2 = 0
  · subst h0
    obtain ⟨d, l, v, s, rfl⟩ := list4 (hl rfl)
    rw [if_pos rfl]
    have e1 : ([d, l, v, s].map i64c).length = 4 := rfl
    have hf1 : Fact' (([d, l, v, s].map i64c).length = 4) := ⟨rfl⟩
    cases hm : mayG ⟨d, l, v, s⟩
    · have hM := fun (L : List HP) => addr_May' ⟨d, l, v, s⟩ _ hm (L := L)
      simp only [List.getD_cons_zero, List.getD_cons_succ, hm, Bool.false_eq_true, if_false]
      unfold Geo.cells at *
      repeat' (first
    | refine swl_op ?_
    | (refine s1_move ?_; refine sc_r (R_move (by rfl)) (by rfl) ?_)
    | (refine s1_load ?_; first | refine sc_r (L_load_all (by rfl) (by infer_instance) (by rfl)) (by rfl) ?_ | refine sc_r (L_load_el1 (by rfl) (by infer_instance) (by omega) (by first | assumption | rfl)) (by rfl) ?_)
    | (refine s1_assign ?_; refine sc_r (R_assign (by rfl)) (by rfl) ?_)
    | (refine s1_bin ?_; refine sc_r (R_neq (by rfl) (by rfl)) (by rfl) ?_)
    | (refine s1_call ?_; first | (refine sc_c (by rfl) (C_call (by rfl) (by infer_instance) (by rfl) (by rfl) (hM _)) (by rfl) ?_; rintro _ _ ⟨rfl, rfl⟩) | (refine sc_c (by rfl) (C_call (by rfl) (by infer_instance) (by rfl) (by rfl) (hR _ (by infer_instance) (by infer_instance) _ _ _ _ (by infer_instance) (by rfl))) (by rfl) ?_; rintro _ _ ⟨vc, rfl, rfl⟩; refine swl_know (fun h H => vec_fact H) ?_; rintro ⟨pc, cc, rfl, hf⟩; rw [e1] at hf ⊢; obtain ⟨b1, o1, rfl⟩ := hf.ptr (by omega)))
    | (refine s1_indexAddr ?_; refine sc_r (R_indexAddr (by rfl) (by rfl) (by omega)) (by rfl) ?_)
    | (refine s1_store ?_; (refine sc_w (by rfl) (W_storeAll (by rfl) (by rfl) (by infer_instance) (by rfl) (by rfl) (by rfl)) (by rfl) ?_; rintro _ _ ⟨rfl, rfl⟩))
    | (refine s1_alloc ?_; (refine sc_w (by rfl) W_allocA (by rfl) ?_; rintro _ _ ⟨_, rfl, rfl⟩))
    | (refine s1_any ?_; first | refine sc_r (R_buildL (by rfl) (by rfl)) (by rfl) ?_ | (refine sc_w (by rfl) (W_buildSliceV (by rfl) (by rfl) (by rfl) (by rfl) (by rfl) (by rfl) (by rfl)) (by rfl) ?_; rintro _ _ ⟨_, rfl, rfl, _, _⟩) | refine sc_r (R_not (by rfl)) (by rfl) ?_ | refine sc_r (R_extract (by rfl) (by rfl)) (by rfl) ?_)
    | refine swl_nil ?_
    | refine sx_next ?_
    | refine sw_seq ?_
    | refine sw_region ?_
    | refine sx_past_ret ?_
    | refine sw_cond_true (by rfl) ?_
    | refine sw_cond_false (by rfl) ?_
    | refine sw_ret ?_
    | refine sw_skip ?_
    | refine swh_lt (by rfl) (fun _ _ => wanted_none) ?_
    | refine swh_hv (by rfl) (fun _ _ => wanted_none) ?_
    | refine swh_nil ?_
    | (apply And.intro; focus ((repeat (first | exact Ent.refl _ | exact Ent.nil | (apply Ent.pick; focus ((repeat (first | exact Rem.here | apply Rem.there)); done)) | apply Ent.drop)); done))
    | (refine sw_draw [(0, true), (1, true), (2, true), (3, true), (4, true), (5, true), (6, true), (7, true), (8, true), (9, true), (10, true), (11, true), (12, true), (13, false), (14, false)] follows ?_ ?_ ?_; (focus rfl); (focus (decide +kernel)))
    | fail)
      --DBG
      exact sx_ret_of (res2 rfl (ResOne.cellA (by rfl) (by infer_instance) (by rfl)) (ResOne.tmp rfl)) L ⟨rfl, rfl⟩ (by (repeat (first | exact Ent.refl _ | exact Ent.nil | (apply Ent.pick; focus ((repeat (first | exact Rem.here | apply Rem.there)); done)) | apply Ent.drop)))
    · have hM := fun (L : List HP) => addr_May' ⟨d, l, v, s⟩ _ hm (L := L)
      simp only [List.getD_cons_zero, List.getD_cons_succ, hm, if_true]
      unfold Geo.cells at *
      repeat' (first
    | refine swl_op ?_
    | (refine s1_move ?_; refine sc_r (R_move (by rfl)) (by rfl) ?_)
    | (refine s1_load ?_; first | refine sc_r (L_load_all (by rfl) (by infer_instance) (by rfl)) (by rfl) ?_ | refine sc_r (L_load_el1 (by rfl) (by infer_instance) (by omega) (by first | assumption | rfl)) (by rfl) ?_)
    | (refine s1_assign ?_; refine sc_r (R_assign (by rfl)) (by rfl) ?_)
    | (refine s1_bin ?_; refine sc_r (R_neq (by rfl) (by rfl)) (by rfl) ?_)
    | (refine s1_call ?_; first | (refine sc_c (by rfl) (C_call (by rfl) (by infer_instance) (by rfl) (by rfl) (hM _)) (by rfl) ?_; rintro _ _ ⟨rfl, rfl⟩) | (refine sc_c (by rfl) (C_call (by rfl) (by infer_instance) (by rfl) (by rfl) (hR _ (by infer_instance) (by infer_instance) _ _ _ _ (by infer_instance) (by rfl))) (by rfl) ?_; rintro _ _ ⟨vc, rfl, rfl⟩; refine swl_know (fun h H => vec_fact H) ?_; rintro ⟨pc, cc, rfl, hf⟩; rw [e1] at hf ⊢; obtain ⟨b1, o1, rfl⟩ := hf.ptr (by omega)))
    | (refine s1_indexAddr ?_; refine sc_r (R_indexAddr (by rfl) (by rfl) (by omega)) (by rfl) ?_)
    | (refine s1_store ?_; (refine sc_w (by rfl) (W_storeAll (by rfl) (by rfl) (by infer_instance) (by rfl) (by rfl) (by rfl)) (by rfl) ?_; rintro _ _ ⟨rfl, rfl⟩))
    | (refine s1_alloc ?_; (refine sc_w (by rfl) W_allocA (by rfl) ?_; rintro _ _ ⟨_, rfl, rfl⟩))
    | (refine s1_any ?_; first | refine sc_r (R_buildL (by rfl) (by rfl)) (by rfl) ?_ | (refine sc_w (by rfl) (W_buildSliceV (by rfl) (by rfl) (by rfl) (by rfl) (by rfl) (by rfl) (by rfl)) (by rfl) ?_; rintro _ _ ⟨_, rfl, rfl, _, _⟩) | refine sc_r (R_not (by rfl)) (by rfl) ?_ | refine sc_r (R_extract (by rfl) (by rfl)) (by rfl) ?_)
    | refine swl_nil ?_
    | refine sx_next ?_
    | refine sw_seq ?_
    | refine sw_region ?_
    | refine sw_cond_false (by rfl) ?_
    | refine sw_ret ?_
    | refine sw_skip ?_
    | refine swh_lt (by rfl) (fun _ _ => wanted_none) ?_
    | refine swh_hv (by rfl) (fun _ _ => wanted_none) ?_
    | refine swh_nil ?_
    | (apply And.intro; focus ((repeat (first | exact Ent.refl _ | exact Ent.nil | (apply Ent.pick; focus ((repeat (first | exact Rem.here | apply Rem.there)); done)) | apply Ent.drop)); done))
    | (refine sw_draw [(0, true), (1, true), (2, true), (3, true), (4, true), (5, true), (6, true), (7, true), (8, true), (9, true), (10, true), (11, true), (12, true), (13, false), (14, false)] follows ?_ ?_ ?_; (focus rfl); (focus (decide +kernel)))
    | fail)
      exact sx_ret_of (res2 rfl (ResOne.cellA (by rfl) (by infer_instance) (by rfl)) (ResOne.tmp rfl)) L ⟨rfl, rfl⟩ (by (repeat (first | exact Ent.refl _ | exact Ent.nil | (apply Ent.pick; focus ((repeat (first | exact Rem.here | apply Rem.there)); done)) | apply Ent.drop)))
  · rw [if_neg h0]
    repeat' (first
    | refine swl_op ?_
    | (refine s1_move ?_; refine sc_r (R_move (by rfl)) (by rfl) ?_)
    | (refine s1_assign ?_; refine sc_r (R_assign (by rfl)) (by rfl) ?_)
    | (refine s1_bin ?_; refine sc_r (R_neq (by rfl) (by rfl)) (by rfl) ?_)
    | (refine s1_call ?_; (refine sc_c (by rfl) (C_call (by rfl) (by infer_instance) (by rfl) (by rfl) (hR _ (by infer_instance) (by infer_instance) _ _ _ _ (by infer_instance) (by rfl))) (by rfl) ?_; rintro _ _ ⟨vc, rfl, rfl⟩))
    | (refine s1_store ?_; (refine sc_w (by rfl) (W_storeAll (by rfl) (by rfl) (by infer_instance) (by rfl) (by rfl) (by rfl)) (by rfl) ?_; rintro _ _ ⟨rfl, rfl⟩))
    | (refine s1_alloc ?_; (refine sc_w (by rfl) W_allocA (by rfl) ?_; rintro _ _ ⟨_, rfl, rfl⟩))
    | (refine s1_any ?_; first | refine sc_r (R_buildL (by rfl) (by rfl)) (by rfl) ?_ | (refine sc_w (by rfl) (W_buildSliceV (by rfl) (by rfl) (by rfl) (by rfl) (by rfl) (by rfl) (by rfl)) (by rfl) ?_; rintro _ _ ⟨_, rfl, rfl, _, _⟩) | refine sc_r (R_extract (by rfl) (by rfl)) (by rfl) ?_)
    | refine swl_nil ?_
    | refine sx_next ?_
    | refine sw_seq ?_
    | refine sw_region ?_
    | refine sx_past_ret ?_
    | refine sw_cond_nneg (by rfl) (by first | assumption | omega) ?_
    | refine sw_ret ?_
    | fail)
    exact sx_ret_of (res2 rfl (ResOne.cellA (by rfl) (by infer_instance) (by rfl)) (ResOne.tmp rfl)) L ⟨rfl, rfl⟩ (by (repeat (first | exact Ent.refl _ | exact Ent.nil | (apply Ent.pick; focus ((repeat (first | exact Rem.here | apply Rem.there)); done)) | apply Ent.drop)))

set_option maxHeartbeats 1000000 in
theorem label_ReadLabel (b : List Int) {L : List HP} {p : Option Addr} {n c : Nat} [HalvesC L] (hb : SlC L p 1 n c (b.map u8c)) :
    Tr Tryd.prog 83 [.slice p n c].toArray L (fun v L' => v = .tuple #[.int .i64 (readLabelF b).1, .int .i64 (readLabelF b).2.1, .int .i64 (readLabelF b).2.2] ∧ L = L') := by
  refine tr_enter Tryd.func83 rfl Tryd.ntmps83 rfl fun w0 => ?_
  have hR := fun (L : List HP) (hg : HalvesC L) (hb : SlC L p 1 n c (b.map u8c)) (q : Option Addr) (m cp : Nat) (els : List (Array Value)) (hw : SlC L q 1 m cp els) (he : els = [1, 4].map i64c) => label_read b 1752592236 [1, 4] (by simp) (by simp) hb hw he
  have hl := readF_len (b := b) (mark := 1752592236) (ws := [1, 4])
  unfold readLabelF
  generalize readF b 1752592236 [1, 4] = r at *
  obtain ⟨r1, r2⟩ := r
  dsimp only at hR hl ⊢
  by_cases h0 : r2 = 0
  · subst h0
    obtain ⟨d, l, rfl⟩ := list2 (hl rfl)
    rw [if_pos rfl]
    have e1 : ([d, l].map i64c).length = 2 := rfl
    have hf1 : Fact' (([d, l].map i64c).length = 2) := ⟨rfl⟩
    cases hm : labMay d l
    all_goals
      have hM := fun (L : List HP) => label_may' d l _ hm (L := L)
      simp only [List.getD_cons_zero, List.getD_cons_succ, hm, Bool.false_eq_true, if_false, if_true]
      repeat' (first
    | refine swl_op ?_
    | (refine s1_move ?_; refine sc_r (R_move (by rfl)) (by rfl) ?_)
    | (refine s1_load ?_; refine sc_r (L_load_el1 (by rfl) (by infer_instance) (by omega) (by first | assumption | rfl)) (by rfl) ?_)
    | (refine s1_assign ?_; refine sc_r (R_assign (by rfl)) (by rfl) ?_)
    | (refine s1_bin ?_; refine sc_r (R_neq (by rfl) (by rfl)) (by rfl) ?_)
    | (refine s1_call ?_; first | (refine sc_c (by rfl) (C_call (by rfl) (by infer_instance) (by rfl) (by rfl) (hM _)) (by rfl) ?_; rintro _ _ ⟨rfl, rfl⟩) | (refine sc_c (by rfl) (C_call (by rfl) (by infer_instance) (by rfl) (by rfl) (hR _ (by infer_instance) (by infer_instance) _ _ _ _ (by infer_instance) (by rfl))) (by rfl) ?_; rintro _ _ ⟨vc, rfl, rfl⟩; refine swl_know (fun h H => vec_fact H) ?_; rintro ⟨pc, cc, rfl, hf⟩; rw [e1] at hf ⊢; obtain ⟨b1, o1, rfl⟩ := hf.ptr (by omega)))
    | (refine s1_indexAddr ?_; refine sc_r (R_indexAddr (by rfl) (by rfl) (by omega)) (by rfl) ?_)
    | (refine s1_any ?_; first | (refine sc_w (by rfl) (W_buildSliceV (by rfl) (by rfl) (by rfl) (by rfl) (by rfl) (by rfl) (by rfl)) (by rfl) ?_; rintro _ _ ⟨_, rfl, rfl, _, _⟩) | refine sc_r (R_not (by rfl)) (by rfl) ?_ | refine sc_r (R_extract (by rfl) (by rfl)) (by rfl) ?_)
    | refine swl_nil ?_
    | refine sx_next ?_
    | refine sw_seq ?_
    | refine sw_region ?_
    | refine sx_past_ret ?_
    | refine sw_cond_true (by rfl) ?_
    | refine sw_cond_false (by rfl) ?_
    | refine sw_ret ?_
    | refine sw_skip ?_
    | refine swh_lt (by rfl) (fun _ _ => wanted_none) ?_
    | refine swh_nil ?_
    | (refine sw_draw [(0, true), (1, true), (2, true), (3, true), (4, true), (5, true), (6, true), (7, true)] follows ?_ ?_ ?_; (focus rfl); (focus (decide +kernel)))
    | fail)
      exact sx_ret_of (res3 rfl (ResOne.tmp rfl) (ResOne.tmp rfl) (ResOne.tmp rfl)) L ⟨rfl, rfl⟩ (by (repeat (first | exact Ent.refl _ | exact Ent.nil | (apply Ent.pick; focus ((repeat (first | exact Rem.here | apply Rem.there)); done)) | apply Ent.drop)))
  · rw [if_neg h0]
    repeat' (first
    | refine swl_op ?_
    | (refine s1_move ?_; refine sc_r (R_move (by rfl)) (by rfl) ?_)
    | (refine s1_assign ?_; refine sc_r (R_assign (by rfl)) (by rfl) ?_)
    | (refine s1_bin ?_; refine sc_r (R_neq (by rfl) (by rfl)) (by rfl) ?_)
    | (refine s1_call ?_; (refine sc_c (by rfl) (C_call (by rfl) (by infer_instance) (by rfl) (by rfl) (hR _ (by infer_instance) (by infer_instance) _ _ _ _ (by infer_instance) (by rfl))) (by rfl) ?_; rintro _ _ ⟨vc, rfl, rfl⟩))
    | (refine s1_any ?_; first | (refine sc_w (by rfl) (W_buildSliceV (by rfl) (by rfl) (by rfl) (by rfl) (by rfl) (by rfl) (by rfl)) (by rfl) ?_; rintro _ _ ⟨_, rfl, rfl, _, _⟩) | refine sc_r (R_extract (by rfl) (by rfl)) (by rfl) ?_)
    | refine swl_nil ?_
    | refine sx_next ?_
    | refine sw_seq ?_
    | refine sw_region ?_
    | refine sx_past_ret ?_
    | refine sw_cond_nneg (by rfl) (by first | assumption | omega) ?_
    | refine sw_ret ?_
    | fail)
    exact sx_ret_of (res3 rfl (ResOne.tmp rfl) (ResOne.tmp rfl) (ResOne.tmp rfl)) L ⟨rfl, rfl⟩ (by (repeat (first | exact Ent.refl _ | exact Ent.nil | (apply Ent.pick; focus ((repeat (first | exact Rem.here | apply Rem.there)); done)) | apply Ent.drop)))
end Go.Proofs.YtcpfehldofmipaaDoor
