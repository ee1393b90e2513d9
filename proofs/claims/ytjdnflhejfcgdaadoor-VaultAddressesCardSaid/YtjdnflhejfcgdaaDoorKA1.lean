import Derived.Test.YtjdnflhejfcgdaaDoorK5
import Derived.Test.YtjdnflhejfcgdaaDoorCards
import Derived.Test.YtjdnflhejfcgdaaDoorTie

/-
  The document's own addresses of vaults; the statement of addresses.
-/
namespace Go.Proofs.YtjdnflhejfcgdaaDoor
open Go Go.SL Go.Proofs

theorem ref3_Count (g : Geo) (hm : mayG g = true) {L : List HP} : Tr Tryd.prog 37 [.agg g.cells].toArray L (fun v L' => v = .int .i64 (g.disk + g.vols * g.segs) ∧ L = L') := by
  have hg := mayG_is hm
  obtain ⟨V, hV⟩ := Int.eq_ofNat_of_zero_le (show 0 ≤ g.vols by omega)
  refine tr_enter Tryd.func37 rfl Tryd.ntmps37 rfl fun w0 => ?_
  simp only [Geo.cells]
  repeat' (first
    | refine swl_op ?_
    | (refine s1_load ?_; refine sc_r (L_load' (by rfl) (by infer_instance) (by rfl)) (by rfl) ?_)
    | (refine s1_fieldAddr ?_; refine sc_r (R_fieldAddr (by rfl)) (by rfl) ?_)
    | (refine s1_assign ?_; refine sc_r (R_assign (by rfl)) (by rfl) ?_)
    | (refine s1_box ?_; (refine sc_w (by rfl) (W_boxA (by rfl)) (by rfl) ?_; rintro _ _ ⟨_, rfl, rfl⟩))
    | refine swl_nil ?_
    | refine sx_next ?_
    | refine sw_seq ?_
    | refine sw_region ?_
    | refine sw_block ?_
    | fail)
  rename_i b1
  refine sw_loop (γ := Nat × Int) (fun q => V - q.1) (fun q => [(1, .pointer (some ⟨b1, 0, none⟩)), (3, .int .i64 q.2), (4, .int .i64 q.1)])
    (fun _ => pt b1 (.cells #[.int .i64 g.disk, .int .i64 g.lines, .int .i64 g.vols, .int .i64 g.segs] 46) :: L) (fun q => q.1 ≤ V ∧ q.2 = g.disk + q.1 * g.segs ∧ 0 ≤ q.2 ∧ q.2 ≤ 256 + q.1 * 256) (0, g.disk) ⟨by omega, by simp, by simp only; omega, by simp only; omega⟩
    (subE.cons rfl (subE.cons rfl (subE.cons rfl subE.nil))) (by (repeat (first | exact Ent.refl _ | exact Ent.nil | (apply Ent.pick; focus ((repeat (first | exact Rem.here | apply Rem.there)); done)) | apply Ent.drop))) ?_
  rintro ⟨i, n⟩ ⟨hi, hn, hn0, hn1⟩
  dsimp only at hi hn hn0 hn1 ⊢
  by_cases hlt : i < V
  · have hlt' : (i : Int) < g.vols := by omega
    repeat' (first
    | refine swl_op ?_
    | (refine s1_move ?_; refine sc_r (R_move (by rfl)) (by rfl) ?_)
    | (refine s1_load ?_; refine sc_r (L_load' (by rfl) (by infer_instance) (by rfl)) (by rfl) ?_)
    | (refine s1_fieldAddr ?_; refine sc_r (R_fieldAddr (by rfl)) (by rfl) ?_)
    | (refine s1_assign ?_; refine sc_r (R_assign (by rfl)) (by rfl) ?_)
    | (refine s1_bin ?_; first | refine sc_r (R_lss (by rfl) (by rfl)) (by rfl) ?_ | refine sc_r (R_add64 (by rfl) (by rfl) (by omega)) (by rfl) ?_)
    | refine swl_nil ?_
    | refine sx_next ?_
    | refine sw_seq ?_
    | refine sw_region ?_
    | refine sw_block ?_
    | refine sx_block_normal ?_
    | refine sw_cond_pos (by rfl) (by first | assumption | omega) ?_
    | refine sw_skip ?_
    | fail)
    refine sx_back (i + 1, n + g.segs) (by simp only; omega) ⟨by simp only; omega, ?_, by simp only; omega, by simp only; omega⟩ (subE.cons rfl (subE.cons rfl (subE.cons rfl subE.nil))) (by (repeat (first | exact Ent.refl _ | exact Ent.nil | (apply Ent.pick; focus ((repeat (first | exact Rem.here | apply Rem.there)); done)) | apply Ent.drop)))
    simp only
    rw [hn, Int.natCast_add, Int.add_mul]; omega
  · obtain rfl : i = V := by omega
    have hlt' : ¬ (i : Int) < g.vols := by omega
    repeat' (first
    | refine swl_op ?_
    | (refine s1_move ?_; refine sc_r (R_move (by rfl)) (by rfl) ?_)
    | (refine s1_load ?_; refine sc_r (L_load' (by rfl) (by infer_instance) (by rfl)) (by rfl) ?_)
    | (refine s1_fieldAddr ?_; refine sc_r (R_fieldAddr (by rfl)) (by rfl) ?_)
    | (refine s1_assign ?_; refine sc_r (R_assign (by rfl)) (by rfl) ?_)
    | (refine s1_bin ?_; refine sc_r (R_lss (by rfl) (by rfl)) (by rfl) ?_)
    | refine swl_nil ?_
    | refine sx_next ?_
    | refine sw_seq ?_
    | refine sw_region ?_
    | refine sx_past_exit ?_
    | refine sx_block_here ?_
    | refine sw_cond_neg (by rfl) (by first | assumption | omega) ?_
    | refine sw_ret ?_
    | refine sw_exit ?_
    | fail)
    rw [hV, ← hn]
    exact sx_ret_of (res1 rfl (ResOne.tmp rfl)) _ ⟨rfl, rfl⟩ (by (repeat (first | exact Ent.refl _ | exact Ent.nil | (apply Ent.pick; focus ((repeat (first | exact Rem.here | apply Rem.there)); done)) | apply Ent.drop)))

set_option maxHeartbeats 1000000 in
theorem ref3_Where_vol (g : Geo) (hm : mayG g = true) {a : Int} (h1 : 16 * g.disk < a) (h2 : a ≤ 16 * (g.disk + g.vols * g.segs)) {L : List HP} : Tr Tryd.prog 38 [.agg g.cells, .int .i64 a].toArray L
    (fun v L' => ∃ (k : Nat) (n : Int), v = .tuple #[.agg #[.int .i64 k, .int .i64 (n / 16), .int .i64 (n % 16)], .bool true] ∧ a - 1 - 16 * g.disk = 16 * g.segs * k + n ∧ 0 ≤ n ∧ n < 16 * g.segs ∧ L = L') := by
  have hg := mayG_is hm
  have hvs := vs_bd hm
  have cC := fun (L : List HP) => ref3_Count g hm (L := L)
  refine tr_enter Tryd.func38 rfl Tryd.ntmps38 rfl fun w0 => ?_
  simp only [Geo.cells] at *
  generalize g.vols * g.segs = vs at *
  repeat' (first
    | refine swl_op ?_
    | (refine s1_move ?_; refine sc_r (R_move (by rfl)) (by rfl) ?_)
    | (refine s1_load ?_; first | refine sc_r (L_load' (by rfl) (by infer_instance) (by rfl)) (by rfl) ?_ | refine sc_r (L_load_all (by rfl) (by infer_instance) (by rfl)) (by rfl) ?_)
    | (refine s1_fieldAddr ?_; refine sc_r (R_fieldAddr (by rfl)) (by rfl) ?_)
    | (refine s1_assign ?_; refine sc_r (R_assign (by rfl)) (by rfl) ?_)
    | (refine s1_pick ?_; refine sc_r (R_pick_f (by rfl) (by rfl)) (by rfl) ?_)
    | (refine s1_bin ?_; first | refine sc_r (R_lss (by rfl) (by rfl)) (by rfl) ?_ | refine sc_r (R_gtr (by rfl) (by rfl)) (by rfl) ?_ | refine sc_r (R_sub64 (by rfl) (by rfl) (by omega)) (by rfl) ?_ | refine sc_r (R_mul64 (by rfl) (by rfl) (by first | assumption | omega)) (by rfl) ?_)
    | (refine s1_call ?_; (refine sc_c (by rfl) (C_call (by rfl) (by infer_instance) (by rfl) (by rfl) (cC _)) (by rfl) ?_; rintro _ _ ⟨rfl, rfl⟩))
    | (refine s1_alloc ?_; (refine sc_w (by rfl) W_allocA (by rfl) ?_; rintro _ _ ⟨_, rfl, rfl⟩))
    | (refine s1_box ?_; (refine sc_w (by rfl) (W_boxA (by rfl)) (by rfl) ?_; rintro _ _ ⟨_, rfl, rfl⟩))
    | refine swl_nil ?_
    | refine sx_next ?_
    | refine sw_seq ?_
    | refine sw_region ?_
    | refine sw_block ?_
    | refine swl_g_on (by rfl) (by rfl) ?_
    | refine swl_g_neg (by rfl) (by rfl) (by first | assumption | omega) ?_
    | refine sw_cond_neg (by rfl) (by first | assumption | omega) ?_
    | refine sw_skip ?_
    | fail)
  rename_i b2 b4
  refine sw_loop (γ := Nat × Int) (fun q => q.2.toNat) (fun q => [(2, .pointer (some ⟨b2, 0, none⟩)), (4, .pointer (some ⟨b4, 0, none⟩)), (6, .int .i64 q.2), (7, .int .i64 q.1)])
    (fun _ => pt b4 (.cells #[.int .i64 0, .int .i64 0, .int .i64 0] 88) :: pt b2 (.cells #[.int .i64 g.disk, .int .i64 g.lines, .int .i64 g.vols, .int .i64 g.segs] 46) :: L) (fun q => a - 1 - 16 * g.disk = 16 * g.segs * q.1 + q.2 ∧ 0 ≤ q.2 ∧ q.2 ≤ 1000000 ∧ q.1 + q.2 ≤ 1000000) (0, a - 1 - 16 * g.disk) ⟨by simp, by simp only; omega, by simp only; omega, by simp only; omega⟩
    (subE.cons rfl (subE.cons rfl (subE.cons rfl (subE.cons rfl subE.nil)))) (by (repeat (first | exact Ent.refl _ | exact Ent.nil | (apply Ent.pick; focus ((repeat (first | exact Rem.here | apply Rem.there)); done)) | apply Ent.drop))) ?_
  rintro ⟨k, n⟩ ⟨hk, hn, hn1, hkn⟩
  dsimp only at hk hn hn1 hkn ⊢
  by_cases hlt : 16 * g.segs ≤ n
  · repeat' (first
    | refine swl_op ?_
    | (refine s1_move ?_; refine sc_r (R_move (by rfl)) (by rfl) ?_)
    | (refine s1_load ?_; refine sc_r (L_load' (by rfl) (by infer_instance) (by rfl)) (by rfl) ?_)
    | (refine s1_fieldAddr ?_; refine sc_r (R_fieldAddr (by rfl)) (by rfl) ?_)
    | (refine s1_assign ?_; refine sc_r (R_assign (by rfl)) (by rfl) ?_)
    | (refine s1_bin ?_; first | refine sc_r (R_add64 (by rfl) (by rfl) (by omega)) (by rfl) ?_ | refine sc_r (R_geq (by rfl) (by rfl)) (by rfl) ?_ | refine sc_r (R_sub64 (by rfl) (by rfl) (by omega)) (by rfl) ?_ | refine sc_r (R_mul64 (by rfl) (by rfl) (by first | assumption | omega)) (by rfl) ?_)
    | refine swl_nil ?_
    | refine sx_next ?_
    | refine sw_seq ?_
    | refine sw_region ?_
    | refine sw_block ?_
    | refine sx_block_normal ?_
    | refine sw_cond_pos (by rfl) (by first | assumption | omega) ?_
    | refine sw_skip ?_
    | fail)
    refine sx_back (k + 1, n - 16 * g.segs) (by simp only; omega) ⟨?_, by simp only; omega, by simp only; omega, by simp only; omega⟩ (subE.cons rfl (subE.cons rfl (subE.cons rfl (subE.cons rfl subE.nil)))) (by (repeat (first | exact Ent.refl _ | exact Ent.nil | (apply Ent.pick; focus ((repeat (first | exact Rem.here | apply Rem.there)); done)) | apply Ent.drop)))
    simp only
    rw [hk, Int.natCast_add, Int.mul_add]; omega
  · repeat' (first
    | refine swl_op ?_
    | (refine s1_move ?_; refine sc_r (R_move (by rfl)) (by rfl) ?_)
    | (refine s1_load ?_; refine sc_r (L_load' (by rfl) (by infer_instance) (by rfl)) (by rfl) ?_)
    | (refine s1_fieldAddr ?_; refine sc_r (R_fieldAddr (by rfl)) (by rfl) ?_)
    | (refine s1_assign ?_; refine sc_r (R_assign (by rfl)) (by rfl) ?_)
    | (refine s1_bin ?_; first | refine sc_r (R_geq (by rfl) (by rfl)) (by rfl) ?_ | refine sc_r (R_mul64 (by rfl) (by rfl) (by first | assumption | omega)) (by rfl) ?_ | refine sc_r (R_quo64 (by rfl) (by rfl) (by omega)) (by rfl) ?_ | refine sc_r (R_rem64 (by rfl) (by rfl) (by omega)) (by rfl) ?_)
    | (refine s1_store ?_; (refine sc_w (by rfl) (W_storeAll (by rfl) (by rfl) (by infer_instance) (by rfl) (by rfl) (by rfl)) (by rfl) ?_; rintro _ _ ⟨rfl, rfl⟩))
    | (refine s1_any ?_; refine sc_r (R_buildL (by rfl) (by rfl)) (by rfl) ?_)
    | refine swl_nil ?_
    | refine sx_next ?_
    | refine sw_seq ?_
    | refine sw_region ?_
    | refine sx_past_exit ?_
    | refine sx_block_here ?_
    | refine sw_cond_neg (by rfl) (by first | assumption | omega) ?_
    | refine sw_ret ?_
    | refine sw_exit ?_
    | fail)
    exact sx_ret_of (res2 rfl (ResOne.cellA (by rfl) (by infer_instance) (by rfl)) (ResOne.tmp rfl)) _ ⟨k, n, rfl, hk, hn, by omega, rfl⟩ (by (repeat (first | exact Ent.refl _ | exact Ent.nil | (apply Ent.pick; focus ((repeat (first | exact Rem.here | apply Rem.there)); done)) | apply Ent.drop)))

/-- is a segment a volume's? -/
def isVol (g : Geo) (seg : Int) : Prop := g.disk ≤ seg ∧ seg < g.disk + g.vols * g.segs
instance (g : Geo) (seg : Int) : Decidable (isVol g seg) := by unfold isVol; infer_instance
theorem ref22_Vol (g : Geo) (hm : mayG g = true) (seg : Int) {L : List HP} : Tr Tryd.prog 14 [.agg g.cells, .int .i64 seg].toArray L
    (fun v L' => ∃ z : Int, v = .int .i64 z ∧ (if isVol g seg then 0 ≤ z else z = -1) ∧ L = L') := by
  have hg := mayG_is hm
  have hvs := vs_bd hm
  have cC := fun (L : List HP) => ref3_Count g hm (L := L)
  refine tr_enter Tryd.func14 rfl Tryd.ntmps14 rfl fun w0 => ?_
  by_cases hv : isVol g seg
  · obtain ⟨h1, h2⟩ := id hv
    have cW := fun (L : List HP) => ref3_Where_vol g hm (a := 16 * seg + 1) (by omega) (by omega) (L := L)
    simp only [Geo.cells] at *
    generalize g.vols * g.segs = vs at *
    repeat' (first
    | refine swl_op ?_
    | (refine s1_move ?_; refine sc_r (R_move (by rfl)) (by rfl) ?_)
    | (refine s1_load ?_; first | refine sc_r (L_load' (by rfl) (by infer_instance) (by rfl)) (by rfl) ?_ | refine sc_r (L_load_all (by rfl) (by infer_instance) (by rfl)) (by rfl) ?_)
    | (refine s1_fieldAddr ?_; refine sc_r (R_fieldAddr (by rfl)) (by rfl) ?_)
    | (refine s1_assign ?_; refine sc_r (R_assign (by rfl)) (by rfl) ?_)
    | (refine s1_pick ?_; refine sc_r (R_pick_f (by rfl) (by rfl)) (by rfl) ?_)
    | (refine s1_bin ?_; first | refine sc_r (R_lss (by rfl) (by rfl)) (by rfl) ?_ | refine sc_r (R_add64 (by rfl) (by rfl) (by omega)) (by rfl) ?_ | refine sc_r (R_geq (by rfl) (by rfl)) (by rfl) ?_ | refine sc_r (R_mul64 (by rfl) (by rfl) (by first | assumption | omega)) (by rfl) ?_)
    | (refine s1_call ?_; first | (refine sc_c (by rfl) (C_call (by rfl) (by infer_instance) (by rfl) (by rfl) (cC _)) (by rfl) ?_; rintro _ _ ⟨rfl, rfl⟩) | (refine sc_c (by rfl) (C_call (by rfl) (by infer_instance) (by rfl) (by rfl) (cW _)) (by rfl) ?_; rintro _ _ ⟨k, n, rfl, hk, hn, hn1, rfl⟩))
    | (refine s1_store ?_; (refine sc_w (by rfl) (W_storeAll (by rfl) (by rfl) (by infer_instance) (by rfl) (by rfl) (by rfl)) (by rfl) ?_; rintro _ _ ⟨rfl, rfl⟩))
    | (refine s1_alloc ?_; (refine sc_w (by rfl) W_allocA (by rfl) ?_; rintro _ _ ⟨_, rfl, rfl⟩))
    | (refine s1_box ?_; (refine sc_w (by rfl) (W_boxA (by rfl)) (by rfl) ?_; rintro _ _ ⟨_, rfl, rfl⟩))
    | (refine s1_any ?_; refine sc_r (R_extract (by rfl) (by rfl)) (by rfl) ?_)
    | refine swl_nil ?_
    | refine sx_next ?_
    | refine sw_seq ?_
    | refine sw_region ?_
    | refine swl_g_on (by rfl) (by rfl) ?_
    | refine swl_g_neg (by rfl) (by rfl) (by first | assumption | omega) ?_
    | refine sw_cond_neg (by rfl) (by first | assumption | omega) ?_
    | refine sw_ret ?_
    | refine sw_skip ?_
    | fail)
    exact sx_ret_of (res1 rfl (ResOne.tmp rfl)) _ ⟨_, rfl, by rw [if_pos hv]; omega, rfl⟩ (by (repeat (first | exact Ent.refl _ | exact Ent.nil | (apply Ent.pick; focus ((repeat (first | exact Rem.here | apply Rem.there)); done)) | apply Ent.drop)))
  · have hv2 : ¬ (g.disk ≤ seg ∧ seg < g.disk + g.vols * g.segs) := hv
    simp only [Geo.cells] at *
    generalize g.vols * g.segs = vs at *
    by_cases h1 : seg < g.disk
    · repeat' (first
    | refine swl_op ?_
    | (refine s1_move ?_; refine sc_r (R_move (by rfl)) (by rfl) ?_)
    | (refine s1_load ?_; refine sc_r (L_load' (by rfl) (by infer_instance) (by rfl)) (by rfl) ?_)
    | (refine s1_fieldAddr ?_; refine sc_r (R_fieldAddr (by rfl)) (by rfl) ?_)
    | (refine s1_assign ?_; refine sc_r (R_assign (by rfl)) (by rfl) ?_)
    | (refine s1_pick ?_; refine sc_r (R_pick_t (by rfl) (by rfl)) (by rfl) ?_)
    | (refine s1_bin ?_; refine sc_r (R_lss (by rfl) (by rfl)) (by rfl) ?_)
    | (refine s1_box ?_; (refine sc_w (by rfl) (W_boxA (by rfl)) (by rfl) ?_; rintro _ _ ⟨_, rfl, rfl⟩))
    | refine swl_nil ?_
    | refine sx_next ?_
    | refine sw_seq ?_
    | refine sw_region ?_
    | refine swl_g_off (by rfl) (by rfl) (by rfl) (by rfl) ?_
    | refine swl_g_pos (by rfl) (by rfl) (by first | assumption | omega) ?_
    | refine sx_past_ret ?_
    | refine sw_cond_true (by rfl) ?_
    | refine sw_ret ?_
    | fail)
      exact sx_ret_of (res1 rfl (ResOne.tmp rfl)) _ ⟨_, rfl, by rw [if_neg hv], rfl⟩ (by (repeat (first | exact Ent.refl _ | exact Ent.nil | (apply Ent.pick; focus ((repeat (first | exact Rem.here | apply Rem.there)); done)) | apply Ent.drop)))
    · repeat' (first
    | refine swl_op ?_
    | (refine s1_move ?_; refine sc_r (R_move (by rfl)) (by rfl) ?_)
    | (refine s1_load ?_; first | refine sc_r (L_load' (by rfl) (by infer_instance) (by rfl)) (by rfl) ?_ | refine sc_r (L_load_all (by rfl) (by infer_instance) (by rfl)) (by rfl) ?_)
    | (refine s1_fieldAddr ?_; refine sc_r (R_fieldAddr (by rfl)) (by rfl) ?_)
    | (refine s1_assign ?_; refine sc_r (R_assign (by rfl)) (by rfl) ?_)
    | (refine s1_pick ?_; refine sc_r (R_pick_f (by rfl) (by rfl)) (by rfl) ?_)
    | (refine s1_bin ?_; first | refine sc_r (R_lss (by rfl) (by rfl)) (by rfl) ?_ | refine sc_r (R_geq (by rfl) (by rfl)) (by rfl) ?_)
    | (refine s1_call ?_; (refine sc_c (by rfl) (C_call (by rfl) (by infer_instance) (by rfl) (by rfl) (cC _)) (by rfl) ?_; rintro _ _ ⟨rfl, rfl⟩))
    | (refine s1_box ?_; (refine sc_w (by rfl) (W_boxA (by rfl)) (by rfl) ?_; rintro _ _ ⟨_, rfl, rfl⟩))
    | refine swl_nil ?_
    | refine sx_next ?_
    | refine sw_seq ?_
    | refine sw_region ?_
    | refine swl_g_on (by rfl) (by rfl) ?_
    | refine swl_g_neg (by rfl) (by rfl) (by first | assumption | omega) ?_
    | refine sx_past_ret ?_
    | refine sw_cond_pos (by rfl) (by first | assumption | omega) ?_
    | refine sw_ret ?_
    | fail)
      exact sx_ret_of (res1 rfl (ResOne.tmp rfl)) _ ⟨_, rfl, by rw [if_neg hv], rfl⟩ (by (repeat (first | exact Ent.refl _ | exact Ent.nil | (apply Ent.pick; focus ((repeat (first | exact Rem.here | apply Rem.there)); done)) | apply Ent.drop)))
theorem volF_isVol {g : Geo} (hm : mayG g = true) (seg : Int) : (isVol g seg → (volF g seg).1 = 16 * seg + 1 ∧ (volF g seg).2.2 = 0) ∧ (¬ isVol g seg → (volF g seg).2.2 = 4) := by
  have hg := mayG_is hm
  have hs : segsG g = g.disk + g.vols * g.segs := by unfold segsG; rw [if_pos hm]
  have hvs := vs_bd hm
  unfold volF isVol
  have ht : ∀ s : Int, 0 ≤ s → s ≤ segsG g - 1 → (tierOf g (s * 16 + 1) = 2 ↔ g.disk ≤ s) := fun s s1 s2 => by
    have e : segOf g (s * 16 + 1) = (s, 0) := by
      unfold segOf blocksG
      rw [if_pos hm, if_pos (by omega), show (s * 16 + 1 - 1) / 16 = s by omega]
    unfold tierOf
    rw [e, if_pos rfl]
    dsimp only
    constructor
    · intro h
      split at h
      · omega
      · split at h
        · omega
        · omega
    · intro h
      rw [if_neg (by omega), if_neg (by omega)]
  unfold firstOf
  rw [if_pos hm]
  by_cases h1 : 0 ≤ seg ∧ seg ≤ segsG g - 1
  · rw [if_pos h1]
    have := ht seg h1.1 h1.2
    by_cases h2 : g.disk ≤ seg
    · rw [if_pos ⟨rfl, this.2 h2⟩]
      refine ⟨fun _ => ⟨?_, rfl⟩, fun h => absurd ⟨h2, by omega⟩ h⟩
      show seg * 16 + 1 = 16 * seg + 1
      omega
    · rw [if_neg (fun h => h2 (this.1 h.2))]
      exact ⟨fun h => absurd h.1 h2, fun _ => rfl⟩
  · rw [if_neg h1, if_neg (by simp)]
    exact ⟨fun h => absurd ⟨by omega, by omega⟩ h1, fun _ => rfl⟩

set_option maxHeartbeats 1000000 in
theorem ref8_Same (xs ys : List Int) {pa pb : Option Addr} {n ca m cb : Nat} {L : List HP} (ha : SlC L pa 1 n ca (xs.map i64c)) (hb : SlC L pb 1 m cb (ys.map i64c)) :
    Tr Tryd.prog 15 [.slice pa n ca, .slice pb m cb].toArray L (fun v L' => v = .bool (decide (xs = ys)) ∧ L = L') := by
  have hla : xs.length = n := by simpa using ha.len
  have hlb : ys.length = m := by simpa using hb.len
  have hbd := ha.bd
  refine tr_enter Tryd.func15 rfl Tryd.ntmps15 rfl fun w0 => ?_
  by_cases hnm : n = m
  · subst hnm
    repeat' (first
    | refine swl_op ?_
    | (refine s1_move ?_; refine sc_r (R_move (by rfl)) (by rfl) ?_)
    | (refine s1_assign ?_; refine sc_r (R_assign (by rfl)) (by rfl) ?_)
    | (refine s1_bin ?_; refine sc_r (R_neq (by rfl) (by rfl)) (by rfl) ?_)
    | (refine s1_call ?_; refine sc_r (R_len (by rfl)) (by rfl) ?_)
    | refine swl_nil ?_
    | refine sx_next ?_
    | refine sw_seq ?_
    | refine sw_region ?_
    | refine sw_block ?_
    | refine sw_cond_npos (by rfl) (by first | assumption | omega) ?_
    | refine sw_skip ?_
    | fail)
    refine sw_loop (γ := Nat) (fun k => n - k) (fun k => [(0, .slice pa n ca), (1, .slice pb n cb), (5, .int .i64 k)]) (fun _ => L) (fun k => k ≤ n ∧ xs.take k = ys.take k) 0 ⟨by omega, rfl⟩ (subE.cons rfl (subE.cons rfl (subE.cons rfl subE.nil))) (by (repeat (first | exact Ent.refl _ | exact Ent.nil | (apply Ent.pick; focus ((repeat (first | exact Rem.here | apply Rem.there)); done)) | apply Ent.drop))) ?_
    rintro k ⟨hk, htk⟩
    by_cases hlt : k < n
    · obtain ⟨b1, o1, rfl⟩ := ha.ptr (by omega)
      obtain ⟨b4, o4, rfl⟩ := hb.ptr (by omega)
      have hk1 : k < xs.length := by omega
      have hk2 : k < ys.length := by omega
      have he1 : (xs.map i64c).getD k #[] = #[.int .i64 xs[k]] := by simp [hk1, i64c]
      have he2 : (ys.map i64c).getD k #[] = #[.int .i64 ys[k]] := by simp [hk2, i64c]
      have hts1 := List.take_succ_eq_append_getElem hk1
      have hts2 := List.take_succ_eq_append_getElem hk2
      have hne : xs[k] ≠ ys[k] → decide (xs = ys) = false := fun h => decide_eq_false fun e => h (by subst e; rfl)
      generalize xs[k] = x at *
      generalize ys[k] = y at *
      repeat' (first
    | refine swl_op ?_
    | (refine s1_move ?_; refine sc_r (R_move (by rfl)) (by rfl) ?_)
    | (refine s1_load ?_; refine sc_r (L_load_el1 (by rfl) (by infer_instance) (by omega) (by first | assumption | rfl)) (by rfl) ?_)
    | (refine s1_assign ?_; refine sc_r (R_assign (by rfl)) (by rfl) ?_)
    | (refine s1_bin ?_; first | refine sc_r (R_lss (by rfl) (by rfl)) (by rfl) ?_ | refine sc_r (R_add64 (by rfl) (by rfl) (by omega)) (by rfl) ?_ | refine sc_r (R_neq (by rfl) (by rfl)) (by rfl) ?_)
    | (refine s1_call ?_; refine sc_r (R_len (by rfl)) (by rfl) ?_)
    | (refine s1_indexAddr ?_; refine sc_r (R_indexAddr (by rfl) (by rfl) (by omega)) (by rfl) ?_)
    | refine swl_nil ?_
    | refine sx_next ?_
    | refine sw_seq ?_
    | refine sw_region ?_
    | refine sw_block ?_
    | refine sx_past_ret ?_
    | refine sx_block_normal ?_
    | refine sx_block_ret ?_
    | refine sw_cond_pos (by rfl) (by first | assumption | omega) ?_
    | refine sw_cond_not (by rfl) (fun hp => ?_) (fun hp => ?_)
    | refine sw_ret ?_
    | refine sw_skip ?_
    | refine swh_lt (by rfl) (fun _ _ => wanted_none) ?_
    | refine swh_nil ?_
    | (refine sw_draw [(0, true), (1, true), (2, true), (3, true), (4, true), (5, true), (6, true), (7, true), (8, true)] follows ?_ ?_ ?_; (focus rfl); (focus (decide +kernel)))
    | fail)
      all_goals first
        | (rw [hne (by assumption)]
           exact sx_ret_of (res1 rfl (ResOne.tmp rfl)) L ⟨rfl, rfl⟩ (by (repeat (first | exact Ent.refl _ | exact Ent.nil | (apply Ent.pick; focus ((repeat (first | exact Rem.here | apply Rem.there)); done)) | apply Ent.drop))))
        | exact sx_back (k + 1) (by omega) ⟨by omega, by rw [hts1, hts2, htk]; congr 2⟩ (subE.cons rfl (subE.cons rfl (subE.cons rfl subE.nil))) (by (repeat (first | exact Ent.refl _ | exact Ent.nil | (apply Ent.pick; focus ((repeat (first | exact Rem.here | apply Rem.there)); done)) | apply Ent.drop)))
    · rw [List.take_of_length_le (by omega), List.take_of_length_le (by omega)] at htk
      rw [decide_eq_true htk]
      repeat' (first
    | refine swl_op ?_
    | (refine s1_move ?_; refine sc_r (R_move (by rfl)) (by rfl) ?_)
    | (refine s1_assign ?_; refine sc_r (R_assign (by rfl)) (by rfl) ?_)
    | (refine s1_bin ?_; refine sc_r (R_lss (by rfl) (by rfl)) (by rfl) ?_)
    | (refine s1_call ?_; refine sc_r (R_len (by rfl)) (by rfl) ?_)
    | refine swl_nil ?_
    | refine sx_next ?_
    | refine sw_seq ?_
    | refine sw_region ?_
    | refine sx_past_exit ?_
    | refine sx_block_here ?_
    | refine sw_cond_neg (by rfl) (by first | assumption | omega) ?_
    | refine sw_ret ?_
    | refine sw_exit ?_
    | fail)
      exact sx_ret_of (res1 rfl (ResOne.tmp rfl)) L ⟨rfl, rfl⟩ (by (repeat (first | exact Ent.refl _ | exact Ent.nil | (apply Ent.pick; focus ((repeat (first | exact Rem.here | apply Rem.there)); done)) | apply Ent.drop)))
  · rw [decide_eq_false (fun e => hnm (by rw [← hla, ← hlb, e]))]
    repeat' (first
    | refine swl_op ?_
    | (refine s1_move ?_; refine sc_r (R_move (by rfl)) (by rfl) ?_)
    | (refine s1_assign ?_; refine sc_r (R_assign (by rfl)) (by rfl) ?_)
    | (refine s1_bin ?_; refine sc_r (R_neq (by rfl) (by rfl)) (by rfl) ?_)
    | (refine s1_call ?_; refine sc_r (R_len (by rfl)) (by rfl) ?_)
    | refine swl_nil ?_
    | refine sx_next ?_
    | refine sw_seq ?_
    | refine sw_region ?_
    | refine sx_past_ret ?_
    | refine sw_cond_nneg (by rfl) (by first | assumption | omega) ?_
    | refine sw_ret ?_
    | fail)
    exact sx_ret_of (res1 rfl (ResOne.tmp rfl)) L ⟨rfl, rfl⟩ (by (repeat (first | exact Ent.refl _ | exact Ent.nil | (apply Ent.pick; focus ((repeat (first | exact Rem.here | apply Rem.there)); done)) | apply Ent.drop)))

theorem vaddr_take (seg : Int) (i : Nat) : (List.range (i + 1)).map (fun (j : Nat) => 16 * seg + 2 + (j : Int)) = (List.range i).map (fun (j : Nat) => 16 * seg + 2 + (j : Int)) ++ [16 * seg + 2 + (i : Int)] := by rw [List.range_succ, List.map_append]; rfl
set_option maxHeartbeats 4000000 in
theorem vaultAddresses_is (g : Geo) (seg n : Int) {L : List HP} [HalvesC L] : Tr Tryd.prog 4 [.agg g.cells, .int .i64 seg, .int .i64 n].toArray L (fun v L' => v = .bool true ∧ L = L') := by
  have hA := fun (L : List HP) => vault_Addresses g seg n (L := L)
  have cM := fun (L : List HP) => ref3_May' g _ rfl (L := L)
  have cK := fun (L : List HP) (h : HalvesC L) => law22_awake (L := L)
  refine tr_enter Tryd.func4 rfl Tryd.ntmps4 rfl fun w0 => ?_
  unfold addrsF at hA
  by_cases hok : mayG g = true ∧ 1 ≤ n ∧ n ≤ 13
  · rw [if_pos hok] at hA
    obtain ⟨hm, hn1, hn2⟩ := hok
    rw [hm] at cM
    have hiv := volF_isVol hm seg
    have hvs := vs_bd hm
    have hg := mayG_is hm
    have cV := fun (L : List HP) => ref22_Vol g hm seg (L := L)
    by_cases hv : isVol g seg
    · obtain ⟨e1, e2⟩ := hiv.1 hv
      have hv2 := hv
      unfold isVol at hv2
      rw [if_pos e2, e1] at hA
      simp only [if_pos hv] at cV
      obtain ⟨N, rfl⟩ := Int.eq_ofNat_of_zero_le (show 0 ≤ n by omega)
      rw [show (fun (i : Nat) => 16 * seg + 1 + 1 + (i : Int)) = fun (i : Nat) => 16 * seg + 2 + (i : Int) from funext fun i => by omega, Int.toNat_natCast] at hA
      simp only [Geo.cells] at *
      generalize g.vols * g.segs = vs at *
      repeat' (first
    | refine swl_op ?_
    | (refine s1_move ?_; refine sc_r (R_move (by rfl)) (by rfl) ?_)
    | (refine s1_load ?_; refine sc_r (L_load_all (by rfl) (by infer_instance) (by rfl)) (by rfl) ?_)
    | (refine s1_assign ?_; refine sc_r (R_assign (by rfl)) (by rfl) ?_)
    | (refine s1_pick ?_; refine sc_r (R_pick_f (by rfl) (by rfl)) (by rfl) ?_)
    | (refine s1_bin ?_; first | refine sc_r (R_lss (by rfl) (by rfl)) (by rfl) ?_ | refine sc_r (R_gtr (by rfl) (by rfl)) (by rfl) ?_)
    | (refine s1_call ?_; first | (refine sc_c (by rfl) (C_call (by rfl) (by infer_instance) (by rfl) (by rfl) (hA _)) (by rfl) ?_; rintro _ _ ⟨sv, rfl, rfl⟩; refine swl_know (fun h H => vec_fact H) ?_; rintro ⟨pA, cA, rfl, hvA⟩) | (refine sc_c (by rfl) (C_call (by rfl) (by infer_instance) (by rfl) (by rfl) (cM _)) (by rfl) ?_; rintro _ _ ⟨rfl, rfl⟩) | (refine sc_c (by rfl) (C_call (by rfl) (by infer_instance) (by rfl) (by rfl) (cV _)) (by rfl) ?_; rintro _ _ ⟨z, rfl, hz, rfl⟩))
    | (refine s1_box ?_; (refine sc_w (by rfl) (W_boxA (by rfl)) (by rfl) ?_; rintro _ _ ⟨_, rfl, rfl⟩))
    | (refine s1_any ?_; first | refine sc_r (R_not (by rfl)) (by rfl) ?_ | refine sc_r (R_extract (by rfl) (by rfl)) (by rfl) ?_)
    | refine swl_nil ?_
    | refine sx_next ?_
    | refine sw_seq ?_
    | refine sw_region ?_
    | refine sw_block ?_
    | refine swl_g_on (by rfl) (by rfl) ?_
    | refine swl_g_neg (by rfl) (by rfl) (by first | assumption | omega) ?_
    | refine sw_cond_neg (by rfl) (by first | assumption | omega) ?_
    | refine sw_skip ?_
    | fail)
      generalize hxs : (List.range N).map (fun (i : Nat) => 16 * seg + 2 + (i : Int)) = xs at *
      refine sw_ent (Ent.vec_nil (e := 3) (k := 1)) ?_
      refine sw_loop (γ := Nat × Value) (fun q => N - q.1) (fun q => [(1, .int .i64 seg), (2, .int .i64 N), (7, .slice pA (xs.map i64c).length cA), (8, .int .i64 0), (9, q.2), (10, .int .i64 q.1)])
        (fun q => vec 3 1 (((List.range q.1).map fun (j : Nat) => 16 * seg + 2 + (j : Int)).map i64c) q.2 :: vec 3 1 (xs.map i64c) (.slice pA (xs.map i64c).length cA) :: L) (fun q => q.1 ≤ N) (0, .slice none 0 0) (by simp)
        (subE.cons rfl (subE.cons rfl (subE.cons rfl (subE.cons rfl (subE.cons rfl (subE.cons rfl subE.nil)))))) (by (repeat (first | exact Ent.refl _ | exact Ent.nil | (apply Ent.pick; focus ((repeat (first | exact Rem.here | apply Rem.there)); done)) | apply Ent.drop))) ?_
      rintro ⟨i, sw⟩ hi
      dsimp only at hi ⊢
      by_cases hlt : i < N
      · have htk := vaddr_take seg i
        have hap : (((List.range (i + 1)).map fun (j : Nat) => 16 * seg + 2 + (j : Int))).map i64c = (((List.range i).map fun (j : Nat) => 16 * seg + 2 + (j : Int))).map i64c ++ [#[Value.int .i64 (16 * seg + 2 + (i : Int))]] := by rw [htk, List.map_append]; rfl
        have hl : ((((List.range i).map fun (j : Nat) => 16 * seg + 2 + (j : Int))).map i64c).length = i := by simp
        generalize (((List.range i).map fun (j : Nat) => 16 * seg + 2 + (j : Int))).map i64c = els at *
        repeat' (first
    | refine swl_op ?_
    | (refine s1_move ?_; refine sc_r (R_move (by rfl)) (by rfl) ?_)
    | (refine s1_assign ?_; refine sc_r (R_assign (by rfl)) (by rfl) ?_)
    | (refine s1_bin ?_; first | refine sc_r (R_lss (by rfl) (by rfl)) (by rfl) ?_ | refine sc_r (R_add64 (by rfl) (by rfl) (by omega)) (by rfl) ?_ | refine sc_r (R_mul64 (by rfl) (by rfl) (by first | assumption | omega)) (by rfl) ?_)
    | (refine s1_call ?_; (refine sc_w (by rfl) (W_appendA (by rfl) (by rfl) (by focus ((repeat (first | exact Rem.here | apply Rem.there)); done)) (by infer_instance) (sizesL_mem (by rfl)) (onesL_mem (by rfl)) (by omega)) (by rfl) ?_; rintro vv _ rfl; refine swl_know (fun h H => vec_fact H) ?_; rintro ⟨pv, cv, rfl, hv3⟩))
    | (refine s1_any ?_; (refine sc_w (by rfl) (W_buildSliceV (by rfl) (by rfl) (by rfl) (by rfl) (by rfl) (by rfl) (by rfl)) (by rfl) ?_; rintro _ _ ⟨_, rfl, rfl, _, _⟩))
    | refine swl_nil ?_
    | refine sx_next ?_
    | refine sw_seq ?_
    | refine sw_region ?_
    | refine sw_block ?_
    | refine sx_block_normal ?_
    | refine sw_cond_pos (by rfl) (by first | assumption | omega) ?_
    | refine sw_skip ?_
    | fail)
        refine sx_back (i + 1, .slice pv (els ++ [#[Value.int .i64 (16 * seg + 2 + (i : Int))]]).length cv) (by simp only; omega) (by simp only; omega) (subE.cons rfl (subE.cons rfl (subE.cons rfl (subE.cons rfl (subE.cons rfl (subE.cons rfl subE.nil)))))) ?_
        dsimp only
        rw [hap]
        (repeat (first | exact Ent.refl _ | exact Ent.nil | (apply Ent.pick; focus ((repeat (first | exact Rem.here | apply Rem.there)); done)) | apply Ent.drop))
      · obtain rfl : i = N := by omega
        rw [hxs]
        refine sw_know (fun h H => vec_fact H) ?_
        rintro ⟨pB, cB, rfl, hvB⟩
        have cS := fun (L : List HP) (h1 : SlC L pA 1 (xs.map i64c).length cA (xs.map i64c)) (h2 : SlC L pB 1 (xs.map i64c).length cB (xs.map i64c)) => ref8_Same xs xs h1 h2
        rw [decide_eq_true rfl] at cS
        repeat' (first
    | refine swl_op ?_
    | (refine s1_move ?_; refine sc_r (R_move (by rfl)) (by rfl) ?_)
    | (refine s1_assign ?_; refine sc_r (R_assign (by rfl)) (by rfl) ?_)
    | (refine s1_pick ?_; refine sc_r (R_pick_t (by rfl) (by rfl)) (by rfl) ?_)
    | (refine s1_bin ?_; first | refine sc_r (R_lss (by rfl) (by rfl)) (by rfl) ?_ | refine sc_r (R_eql (by rfl) (by rfl)) (by rfl) ?_)
    | (refine s1_call ?_; first | (refine sc_c (by rfl) (C_call (by rfl) (by infer_instance) (by rfl) (by rfl) (cS _ (by infer_instance) (by infer_instance))) (by rfl) ?_; rintro _ _ ⟨rfl, rfl⟩) | (refine sc_c (by rfl) (C_call (by rfl) (by infer_instance) (by rfl) (by rfl) (cK _ (by infer_instance))) (by rfl) ?_; rintro _ _ ⟨rfl, rfl⟩))
    | refine swl_nil ?_
    | refine sx_next ?_
    | refine sw_seq ?_
    | refine sw_region ?_
    | refine swl_g_on (by rfl) (by rfl) ?_
    | refine sx_past_exit ?_
    | refine sx_block_here ?_
    | refine sw_cond_neg (by rfl) (by first | assumption | omega) ?_
    | refine sw_ret ?_
    | refine sw_exit ?_
    | fail)
        exact sx_ret_of (res1 rfl (ResOne.tmp rfl)) _ ⟨rfl, rfl⟩ (by (repeat (first | exact Ent.refl _ | exact Ent.nil | (apply Ent.pick; focus ((repeat (first | exact Rem.here | apply Rem.there)); done)) | apply Ent.drop)))
    · have e2 := hiv.2 hv
      rw [if_neg (by rw [e2]; omega)] at hA
      simp only [if_neg hv] at cV
      simp only [Geo.cells] at *
      repeat' (first
    | refine swl_op ?_
    | (refine s1_move ?_; refine sc_r (R_move (by rfl)) (by rfl) ?_)
    | (refine s1_load ?_; refine sc_r (L_load_all (by rfl) (by infer_instance) (by rfl)) (by rfl) ?_)
    | (refine s1_assign ?_; refine sc_r (R_assign (by rfl)) (by rfl) ?_)
    | (refine s1_pick ?_; first | refine sc_r (R_pick_t (by rfl) (by rfl)) (by rfl) ?_ | refine sc_r (R_pick_f (by rfl) (by rfl)) (by rfl) ?_)
    | (refine s1_bin ?_; first | refine sc_r (R_lss (by rfl) (by rfl)) (by rfl) ?_ | refine sc_r (R_gtr (by rfl) (by rfl)) (by rfl) ?_ | refine sc_r (R_eql (by rfl) (by rfl)) (by rfl) ?_)
    | (refine s1_call ?_; first | (refine sc_c (by rfl) (C_call (by rfl) (by infer_instance) (by rfl) (by rfl) (hA _)) (by rfl) ?_; rintro _ _ ⟨sv, rfl, rfl⟩; refine swl_know (fun h H => vec_fact H) ?_; rintro ⟨pA, cA, rfl, hvA⟩) | (refine sc_c (by rfl) (C_call (by rfl) (by infer_instance) (by rfl) (by rfl) (cM _)) (by rfl) ?_; rintro _ _ ⟨rfl, rfl⟩) | (refine sc_c (by rfl) (C_call (by rfl) (by infer_instance) (by rfl) (by rfl) (cV _)) (by rfl) ?_; rintro _ _ ⟨z, rfl, rfl, rfl⟩) | (refine sc_c (by rfl) (C_call (by rfl) (by infer_instance) (by rfl) (by rfl) (cK _ (by infer_instance))) (by rfl) ?_; rintro _ _ ⟨rfl, rfl⟩) | refine sc_r (R_len (by rfl)) (by rfl) ?_)
    | (refine s1_box ?_; (refine sc_w (by rfl) (W_boxA (by rfl)) (by rfl) ?_; rintro _ _ ⟨_, rfl, rfl⟩))
    | (refine s1_any ?_; first | refine sc_r (R_not (by rfl)) (by rfl) ?_ | refine sc_r (R_extract (by rfl) (by rfl)) (by rfl) ?_)
    | refine swl_nil ?_
    | refine sx_next ?_
    | refine sw_seq ?_
    | refine sw_region ?_
    | refine swl_g_on (by rfl) (by rfl) ?_
    | refine swl_g_neg (by rfl) (by rfl) (by first | assumption | omega) ?_
    | refine sx_past_ret ?_
    | refine sw_cond_true (by rfl) ?_
    | refine sw_cond_neg (by rfl) (by first | assumption | omega) ?_
    | refine sw_ret ?_
    | refine sw_skip ?_
    | fail)
      exact sx_ret_of (res1 rfl (ResOne.tmp rfl)) _ ⟨rfl, rfl⟩ (by (repeat (first | exact Ent.refl _ | exact Ent.nil | (apply Ent.pick; focus ((repeat (first | exact Rem.here | apply Rem.there)); done)) | apply Ent.drop)))
  · rw [if_neg hok] at hA
    simp only [Geo.cells] at *
    cases hm : mayG g
    · rw [hm] at cM
      repeat' (first
    | refine swl_op ?_
    | (refine s1_move ?_; refine sc_r (R_move (by rfl)) (by rfl) ?_)
    | (refine s1_load ?_; refine sc_r (L_load_all (by rfl) (by infer_instance) (by rfl)) (by rfl) ?_)
    | (refine s1_assign ?_; refine sc_r (R_assign (by rfl)) (by rfl) ?_)
    | (refine s1_pick ?_; refine sc_r (R_pick_t (by rfl) (by rfl)) (by rfl) ?_)
    | (refine s1_bin ?_; refine sc_r (R_eql (by rfl) (by rfl)) (by rfl) ?_)
    | (refine s1_call ?_; first | (refine sc_c (by rfl) (C_call (by rfl) (by infer_instance) (by rfl) (by rfl) (hA _)) (by rfl) ?_; rintro _ _ ⟨sv, rfl, rfl⟩; refine swl_know (fun h H => vec_fact H) ?_; rintro ⟨pA, cA, rfl, hvA⟩) | (refine sc_c (by rfl) (C_call (by rfl) (by infer_instance) (by rfl) (by rfl) (cM _)) (by rfl) ?_; rintro _ _ ⟨rfl, rfl⟩) | (refine sc_c (by rfl) (C_call (by rfl) (by infer_instance) (by rfl) (by rfl) (cK _ (by infer_instance))) (by rfl) ?_; rintro _ _ ⟨rfl, rfl⟩) | refine sc_r (R_len (by rfl)) (by rfl) ?_)
    | (refine s1_box ?_; (refine sc_w (by rfl) (W_boxA (by rfl)) (by rfl) ?_; rintro _ _ ⟨_, rfl, rfl⟩))
    | (refine s1_any ?_; first | refine sc_r (R_not (by rfl)) (by rfl) ?_ | refine sc_r (R_extract (by rfl) (by rfl)) (by rfl) ?_)
    | refine swl_nil ?_
    | refine sx_next ?_
    | refine sw_seq ?_
    | refine sw_region ?_
    | refine swl_g_on (by rfl) (by rfl) ?_
    | refine swl_g_off (by rfl) (by rfl) (by rfl) (by rfl) ?_
    | refine sx_past_ret ?_
    | refine sw_cond_true (by rfl) ?_
    | refine sw_ret ?_
    | fail)
      exact sx_ret_of (res1 rfl (ResOne.tmp rfl)) _ ⟨rfl, rfl⟩ (by (repeat (first | exact Ent.refl _ | exact Ent.nil | (apply Ent.pick; focus ((repeat (first | exact Rem.here | apply Rem.there)); done)) | apply Ent.drop)))
    · rw [hm] at cM
      have hn : n < 1 ∨ 13 < n := by
        have : ¬ (1 ≤ n ∧ n ≤ 13) := fun h => hok ⟨hm, h⟩
        omega
      rcases hn with hn | hn
      all_goals
        repeat' (first
    | refine swl_op ?_
    | (refine s1_move ?_; refine sc_r (R_move (by rfl)) (by rfl) ?_)
    | (refine s1_load ?_; refine sc_r (L_load_all (by rfl) (by infer_instance) (by rfl)) (by rfl) ?_)
    | (refine s1_assign ?_; refine sc_r (R_assign (by rfl)) (by rfl) ?_)
    | (refine s1_pick ?_; first | refine sc_r (R_pick_t (by rfl) (by rfl)) (by rfl) ?_ | refine sc_r (R_pick_f (by rfl) (by rfl)) (by rfl) ?_)
    | (refine s1_bin ?_; first | refine sc_r (R_lss (by rfl) (by rfl)) (by rfl) ?_ | refine sc_r (R_gtr (by rfl) (by rfl)) (by rfl) ?_ | refine sc_r (R_eql (by rfl) (by rfl)) (by rfl) ?_)
    | (refine s1_call ?_; first | (refine sc_c (by rfl) (C_call (by rfl) (by infer_instance) (by rfl) (by rfl) (hA _)) (by rfl) ?_; rintro _ _ ⟨sv, rfl, rfl⟩; refine swl_know (fun h H => vec_fact H) ?_; rintro ⟨pA, cA, rfl, hvA⟩) | (refine sc_c (by rfl) (C_call (by rfl) (by infer_instance) (by rfl) (by rfl) (cM _)) (by rfl) ?_; rintro _ _ ⟨rfl, rfl⟩) | (refine sc_c (by rfl) (C_call (by rfl) (by infer_instance) (by rfl) (by rfl) (cK _ (by infer_instance))) (by rfl) ?_; rintro _ _ ⟨rfl, rfl⟩) | refine sc_r (R_len (by rfl)) (by rfl) ?_)
    | (refine s1_box ?_; (refine sc_w (by rfl) (W_boxA (by rfl)) (by rfl) ?_; rintro _ _ ⟨_, rfl, rfl⟩))
    | (refine s1_any ?_; first | refine sc_r (R_not (by rfl)) (by rfl) ?_ | refine sc_r (R_extract (by rfl) (by rfl)) (by rfl) ?_)
    | refine swl_nil ?_
    | refine sx_next ?_
    | refine sw_seq ?_
    | refine sw_region ?_
    | refine swl_g_on (by rfl) (by rfl) ?_
    | refine swl_g_off (by rfl) (by rfl) (by rfl) (by rfl) ?_
    | refine swl_g_pos (by rfl) (by rfl) (by first | assumption | omega) ?_
    | refine swl_g_neg (by rfl) (by rfl) (by first | assumption | omega) ?_
    | refine sx_past_ret ?_
    | refine sw_cond_true (by rfl) ?_
    | refine sw_cond_pos (by rfl) (by first | assumption | omega) ?_
    | refine sw_ret ?_
    | fail)
        exact sx_ret_of (res1 rfl (ResOne.tmp rfl)) _ ⟨rfl, rfl⟩ (by (repeat (first | exact Ent.refl _ | exact Ent.nil | (apply Ent.pick; focus ((repeat (first | exact Rem.here | apply Rem.there)); done)) | apply Ent.drop)))
end Go.Proofs.YtjdnflhejfcgdaaDoor

/-
  VaultAddresses returns true for every input and leaves its arguments as they were, whatever memory it is called in; crc.halves, which it reads, is tied to the program's text; no further condition.
-/
namespace Go.Proofs.YtjdnflhejfcgdaaDoor
open Go Go.SL Go.ChangeShapes Go.WideShapes Go.ChangeAt Go.RowKit Go.Joins

theorem four_of {α : Type} {l : List α} (h : l.length = 4) : ∃ a b c d, l = [a, b, c, d] := by
  match l, h with
  | [a, b, c, d], _ => exact ⟨a, b, c, d, rfl⟩
set_option maxRecDepth 100000 in
theorem open_geo {H : Type} {enc : TypeId × Value → H} {w : World} {base : Nat} {spare : Nat → Bool} {held : Bool} (cs : List Value) (m : Nat) (y : DataW H × List MemPlace)
    (h : DataW.trod enc Tryd.prog w base spare held m 46 cs = some y) : ∃ a : Geo, cs = a.cells.toList := by
  obtain ⟨y0, y1, y2, y3, n, rfl, hl, h0, h1, h2, h3⟩ := trod_struct4 Tryd.underlying46 h
  have c4 : Tryd.prog.cellsOf 46 = 4 := by kernel_rfl
  have k3 : Tryd.prog.cellsOf 3 = 1 := by kernel_rfl
  rw [c4] at hl
  obtain ⟨v0, v1, v2, v3, rfl⟩ := four_of hl
  simp only [k3] at h0 h1 h2 h3
  obtain ⟨n0, e0, _, _⟩ := DataW.trod_int Tryd.underlying3 h0
  obtain ⟨n1, e1, _, _⟩ := DataW.trod_int Tryd.underlying3 h1
  obtain ⟨n2, e2, _, _⟩ := DataW.trod_int Tryd.underlying3 h2
  obtain ⟨n3, e3, _, _⟩ := DataW.trod_int Tryd.underlying3 h3
  simp at e0 e1 e2 e3
  exact ⟨⟨n0, n1, n2, n3⟩, by simp [Geo.cells, e0, e1, e2, e3]⟩
set_option maxRecDepth 100000 in
theorem open_geoV {H : Type} {enc : TypeId × Value → H} {w : World} {base : Nat} {spare : Nat → Bool} {held : Bool} {r : Reach} {b0 : Nat} {v : Value} {d : DataW H} {p : List MemPlace} (hv : Value.okWide Tryd.prog w r b0 46 v)
    (h : DataW.Trod enc Tryd.prog w base spare held 46 v d p) : ∃ g : Geo, v = .agg g.cells := by
  obtain ⟨cs, rfl, hcs⟩ := okWide_struct Tryd.underlying46 hv
  obtain ⟨fuel, hf⟩ := h
  obtain ⟨g, e⟩ := open_geo _ _ _ hf
  have hce : (Value.agg cs).cells = cs := rfl
  rw [hce] at e
  exact ⟨g, by rw [Array.toList_inj.1 e]⟩

set_option maxRecDepth 100000 in
theorem vaultAddresses_lifted (os : Os) (started : os.Started) (H : Type) (enc : TypeId × Value → H) :
    ReturnsInHanded {} Tryd.checked os 4 .any (fun w args => (Rows.vaultAddressesSpec.pre enc Tryd.prog Tryd.f4 [] false w args ∧ laidMetH Tryd.prog halvesLaid w) ∧ sizedMet enc Tryd.prog Tryd.f4 (OpenSpec.ofChange Rows.vaultAddressesSpec) false w args)
      (Rows.vaultAddressesSpec.post enc Tryd.prog Tryd.f4 false true false false) := by
  refine returnsInHanded_of_change_and (C := Tryd.checked) (X := fun w _ => laidMetH Tryd.prog halvesLaid w) (fun _ _ _ hh h => h.of_heap hh) own_knob started (by kernel_rfl) Tryd.func4
    (ChangeSpec.witness_shaped (enc := enc) (C := Tryd.checked) (os := os) (X := fun w _ => laidMetH Tryd.prog halvesLaid w) false (World.doorLaid Tryd.prog 400 os) #[.agg #[.int .i64 0, .int .i64 0, .int .i64 0, .int .i64 0], .int .i64 0, .int .i64 0] 20 rfl (World.shaped_of_RefB (by kernel_rfl) (by kernel_rfl)) (by kernel_rfl) (by kernel_rfl) (by kernel_rfl) (door_met os _)) ?_
  intro W base args ds gs before hval0 hW _ hsz0 hL _
  have hval : ∀ (j : Nat) t v, Tryd.f4.params[j]? = some t → args[j]? = some v → Value.okWide Tryd.prog W .any base t v := hval0
  have hsz : (DataW.weightsEach Tryd.prog (Tryd.f4.params.toList ++ Rows.vaultAddressesSpec.plain.varTypes Tryd.prog) (ds ++ gs)).all (· ≤ reachBytes) = true := hsz0
  have hW' := hW
  obtain ⟨p, q, hA0, hV, rfl, hfz, hnd⟩ := hW
  have hA : DataW.TrodAll enc Tryd.prog W 0 (fun _ => true) true Tryd.f4.params.toList args.toList ds p := hA0
  rw [Tryd.params4] at hA hval hsz
  obtain ⟨v0, vs0, d0, ds0, p0, q0, hargs, rfl, rfl, h0, r0⟩ := trodAll_cons hA
  obtain ⟨v1, vs1, d1, ds1, p1, q1, rfl, rfl, rfl, h1, r1⟩ := trodAll_cons r0
  obtain ⟨v2, vs2, d2, ds2, p2, q2, rfl, rfl, rfl, h2, r2⟩ := trodAll_cons r1
  obtain ⟨rfl, rfl, rfl⟩ := trodAll_nil r2
  obtain rfl : args = #[v0, v1, v2] := by cases args; simp_all
  obtain ⟨rfl, rfl⟩ := trodVars_none hV
  have k0 := h0
  have lt0 : ∀ x ∈ p0, x.block < W.heap.size := by obtain ⟨m, hm⟩ := k0; exact DataW.trod_lt m _ _ _ hm
  obtain ⟨g, rfl⟩ := open_geoV (hval 0 _ v0 rfl rfl) h0
  obtain ⟨seg, rfl, rfl, rfl, w1⟩ := open_int Tryd.underlying3 (hval 1 _ v1 rfl rfl) h1
  obtain ⟨n, rfl, rfl, rfl, w2⟩ := open_int Tryd.underlying3 (hval 2 _ v2 rfl rfl) h2
  have hC := halves_of_laid hL
  clear hA0 hval0
  refine (Tr.below (v := .bool true) ((vaultAddresses_is g seg n (L := [whole W])).weaken fun v L' h => ⟨L', Ent.refl _, h.1, h.2.symm⟩)).mono fun e W' ⟨he, bel⟩ => ?_
  subst he
  exact ⟨_, rfl, _, _, _, [], _, [], hW', trodAll_mk1 (shut_bool Tryd.underlying4 _), (trodAll_cons_mk (Below.trod laid_out (by kernel_rfl) (of_decide_eq_true (by kernel_rfl)) k0 bel lt0) (trodAll_cons_mk (shut_int Tryd.underlying3 w1) (trodAll_cons_mk (shut_int Tryd.underlying3 w2) trodAll_mk0))), rfl, bel.frame _, fun h => by cases h⟩

theorem vaultAddresses_row : Rows.VaultAddressesSaid :=
  OpenClaim.holds_of_wide 4 Tryd.f4 rfl rfl rfl rfl rfl rfl rfl ⟨rfl, rfl, rfl, rfl, rfl⟩ rfl rfl rfl rfl rfl (by kernel_rfl) Tryd.func4 (by kernel_rfl)
    (of_decide_eq_true (by kernel_rfl)) (by unfold Func.isWrapper; first | (rw [if_pos (by decide +kernel)]; kernel_rfl) | (rw [if_neg (by decide +kernel)]; exact ⟨rfl, rfl⟩))
    (fun os started H enc _ => vaultAddresses_lifted os started H enc)

theorem vaultAddresses_holds : Rows.VaultAddressesCardSaid :=
  Claim7.holds_tied_plain_at .later [] [.data] true (true, "5b89e90cde3a50a738050261dd56ba187339b13d7acc54e8506573a99a4bbcc4") false
    vaultAddresses_row (fun _ h => by cases h) (by kernel_rfl) (fun _ h => by cases h) vaultAddresses_row_tie rfl ⟨rfl, rfl⟩ (by kernel_rfl) rfl
    (fun f fn hf hfn => by
      obtain rfl : f = 4 := Option.some.inj ((show Tryd.prog.funcNamed "haymow/haymowlaw22.VaultAddresses" = some 4 by kernel_rfl).symm.trans hf) |>.symm
      obtain rfl : fn = Tryd.f4 := (Option.some.inj (Tryd.func4.symm.trans hfn)).symm
      exact ⟨by kernel_rfl, fun j t ht => by
        rw [Tryd.params4] at ht
        have hm : t ∈ [46, 3, 3] := by simpa using Array.mem_of_getElem? ht
        have hall : ([46, 3, 3].all fun u => !Tryd.prog.wantsStandIn u) = true := by kernel_rfl
        exact (show Tryd.prog.wantsStandIn t = false by simpa using List.all_eq_true.1 hall t hm)⟩)
    (by kernel_rfl)
#print axioms vaultAddresses_holds
end Go.Proofs.YtjdnflhejfcgdaaDoor
