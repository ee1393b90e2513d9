/-
  What laws hand in: the devices of a geometry.
-/
import Derived.Test.YtcpfehldofmipaaDoorHand1
import Derived.Test.YtcpfehldofmipaaDoorBase19
namespace Go.Proofs.YtcpfehldofmipaaDoor
open Go Go.SL Go.Proofs

theorem dev_New' (z : Int) (h : 1 ≤ z ∧ z ≤ 8192) {L : List HP} : Tr Tryd.prog 9 [.int .i64 z].toArray L (fun v L' => ∃ a, v = .tuple #[.pointer (some ⟨a, 0, none⟩), .int .i64 0] ∧ L' = devP a (newDev z.toNat) :: L) := by
  have := dev_New z.toNat (by omega) (L := L)
  rwa [Int.toNat_of_nonneg (by omega)] at this
theorem ref4_New' (z : Int) (h : 0 ≤ z ∧ z ≤ 100000) {L : List HP} : Tr Tryd.prog 49 [.int .i64 z].toArray L (fun v L' => ∃ b, v = .pointer (some ⟨b, 0, none⟩) ∧ L = L') := by
  have := ref4_New z.toNat (by omega) (L := L)
  rwa [Int.toNat_of_nonneg (by omega)] at this

def someG : Geo := ⟨10, 2, 2, 3⟩
theorem law21_some {L : List HP} : Tr Tryd.prog 15 [].toArray L (fun v L' => v = .agg someG.cells ∧ L = L') := by
  refine tr_enter Tryd.func15 rfl Tryd.ntmps15 rfl fun w0 => ?_
  repeat' (first
    | refine swl_op ?_
    | (refine s1_store ?_; (refine sc_w (by rfl) (W_storeAll (by rfl) (by rfl) (by infer_instance) (by rfl) (by rfl) (by rfl)) (by rfl) ?_; rintro _ _ ⟨rfl, rfl⟩))
    | (refine s1_alloc ?_; (refine sc_w (by rfl) W_allocA (by rfl) ?_; rintro _ _ ⟨_, rfl, rfl⟩))
    | (refine s1_any ?_; refine sc_r (R_buildL (by rfl) (by rfl)) (by rfl) ?_)
    | refine swl_nil ?_
    | refine sx_next ?_
    | refine sw_seq ?_
    | refine sw_region ?_
    | refine sw_ret ?_
    | fail)
  exact sx_ret_of (res1 rfl (ResOne.cellA (by rfl) (by infer_instance) (by rfl))) _ ⟨rfl, rfl⟩ (by (repeat (first | exact Ent.refl _ | exact Ent.nil | (apply Ent.pick; focus ((repeat (first | exact Rem.here | apply Rem.there)); done)) | apply Ent.drop)))

set_option maxHeartbeats 4000000 in
theorem law21_devices (g : Geo) (hm : mayG g = true) {L : List HP} : Tr Tryd.prog 14 [.agg g.cells].toArray L
    (fun v L' => ∃ d vl sl r rl, v = .tuple #[.pointer (some ⟨d, 0, none⟩), sl, .pointer (some ⟨r, 0, none⟩), rl, .bool true] ∧ vl.map Prod.snd = List.replicate g.vols.toNat (newDev (1 + 16 * g.segs).toNat) ∧
      L' = devP d (newDev (16 + 16 * g.disk).toNat) :: devsP vl :: vec 26 1 ((vl.map Prod.fst).map ptrc) sl :: L) := by
  refine tr_enter Tryd.func14 rfl Tryd.ntmps14 rfl fun w0 => ?_
  have hg := mayG_is hm
  unfold Geo.cells
  repeat' (first
    | refine swl_op ?_
    | (refine s1_move ?_; refine sc_r (R_move (by rfl)) (by rfl) ?_)
    | (refine s1_load ?_; refine sc_r (L_load' (by rfl) (by infer_instance) (by rfl)) (by rfl) ?_)
    | (refine s1_fieldAddr ?_; refine sc_r (R_fieldAddr (by rfl)) (by rfl) ?_)
    | (refine s1_assign ?_; refine sc_r (R_assign (by rfl)) (by rfl) ?_)
    | (refine s1_pick ?_; refine sc_r (R_pick_f (by rfl) (by rfl)) (by rfl) ?_)
    | (refine s1_bin ?_; first | refine sc_r (R_add64 (by rfl) (by rfl) (by omega)) (by rfl) ?_ | refine sc_r (R_neq (by rfl) (by rfl)) (by rfl) ?_ | refine sc_r (R_mul64 (by rfl) (by rfl) (by first | assumption | omega)) (by rfl) ?_ | refine sc_r (R_eql_nil (by rfl) (by rfl)) (by rfl) ?_)
    | (refine s1_call ?_; (refine sc_c (by rfl) (C_call (by rfl) (by infer_instance) (by rfl) (by rfl) (dev_New' _ (by omega))) (by rfl) ?_; rintro _ _ ⟨d, rfl, rfl⟩))
    | (refine s1_box ?_; (refine sc_w (by rfl) (W_boxA (by rfl)) (by rfl) ?_; rintro _ _ ⟨_, rfl, rfl⟩))
    | (refine s1_any ?_; refine sc_r (R_extract (by rfl) (by rfl)) (by rfl) ?_)
    | refine swl_nil ?_
    | refine sx_next ?_
    | refine sw_seq ?_
    | refine sw_region ?_
    | refine sw_block ?_
    | refine swl_g_on (by rfl) (by rfl) ?_
    | refine sw_cond_false (by rfl) ?_
    | refine sw_skip ?_
    | fail)
  rename_i b1
  refine sw_ent (Ent.vec_nil (e := 26) (k := 1)) ?_
  refine sw_ent (Ent.vec_nil (e := 40) (k := 1)) ?_
  refine sw_ent devs_nil ?_
  refine sw_loop (γ := Nat × List (Nat × DevS) × Value × Value × List (Array Value)) (fun q => g.vols.toNat - q.1) (fun q => [(1, .pointer (some ⟨b1, 0, none⟩)), (7, .pointer (some ⟨d, 0, none⟩)), (9, q.2.2.1), (10, q.2.2.2.1), (11, .int .i64 q.1)])
    (fun q => devP d (newDev (16 + 16 * g.disk).toNat) :: devsP q.2.1 :: vec 26 1 ((q.2.1.map Prod.fst).map ptrc) q.2.2.1 :: vec 40 1 q.2.2.2.2 q.2.2.2.1 :: pt b1 (.cells #[.int .i64 g.disk, .int .i64 g.lines, .int .i64 g.vols, .int .i64 g.segs] 23) :: L)
    (fun q => q.1 ≤ g.vols.toNat ∧ q.2.1.map Prod.snd = List.replicate q.1 (newDev (1 + 16 * g.segs).toNat) ∧ q.2.2.2.2.length = q.1) (0, [], .slice none 0 0, .slice none 0 0, []) ⟨by simp, rfl, rfl⟩
    (subE.cons rfl (subE.cons rfl (subE.cons rfl (subE.cons rfl (subE.cons rfl subE.nil))))) (by (repeat (first | exact Ent.refl _ | exact Ent.nil | (apply Ent.pick; focus ((repeat (first | exact Rem.here | apply Rem.there)); done)) | apply Ent.drop))) ?_
  rintro ⟨i, vl, sl, rl, e2⟩ ⟨hi, hvl, hl2⟩
  dsimp only at hi hvl hl2 ⊢
  have hvn : ((vl.map Prod.fst).map ptrc).length = i := by
    have := congrArg List.length hvl
    simpa using this
  by_cases hlt : i < g.vols.toNat
  · repeat' (first
    | refine swl_op ?_
    | (refine s1_move ?_; refine sc_r (R_move (by rfl)) (by rfl) ?_)
    | (refine s1_load ?_; refine sc_r (L_load' (by rfl) (by infer_instance) (by rfl)) (by rfl) ?_)
    | (refine s1_fieldAddr ?_; refine sc_r (R_fieldAddr (by rfl)) (by rfl) ?_)
    | (refine s1_assign ?_; refine sc_r (R_assign (by rfl)) (by rfl) ?_)
    | (refine s1_pick ?_; refine sc_r (R_pick_f (by rfl) (by rfl)) (by rfl) ?_)
    | (refine s1_bin ?_; first | refine sc_r (R_lss (by rfl) (by rfl)) (by rfl) ?_ | refine sc_r (R_add64 (by rfl) (by rfl) (by omega)) (by rfl) ?_ | refine sc_r (R_neq (by rfl) (by rfl)) (by rfl) ?_ | refine sc_r (R_mul64 (by rfl) (by rfl) (by first | assumption | omega)) (by rfl) ?_ | refine sc_r (R_eql_nil (by rfl) (by rfl)) (by rfl) ?_)
    | (refine s1_call ?_; first | (refine sc_c (by rfl) (C_call (by rfl) (by infer_instance) (by rfl) (by rfl) (dev_New' _ (by omega))) (by rfl) ?_; rintro _ _ ⟨a, rfl, rfl⟩) | (refine sc_c (by rfl) (C_call (by rfl) (by infer_instance) (by rfl) (by rfl) (ref4_New' _ (by omega))) (by rfl) ?_; rintro _ _ ⟨r1, rfl, rfl⟩) | (refine sc_w (by rfl) (W_append1 (by rfl) (by rfl) (by focus ((repeat (first | exact Rem.here | apply Rem.there)); done)) (by infer_instance) (by rfl) (by rfl) (by omega)) (by rfl) ?_; rintro v1 _ rfl))
    | (refine s1_any ?_; first | refine sc_r (R_extract (by rfl) (by rfl)) (by rfl) ?_ | (refine sc_w (by rfl) (W_buildSlice1s (by rfl) (by rfl)) (by rfl) ?_; rintro _ _ ⟨_, rfl, rfl⟩))
    | refine swl_nil ?_
    | refine sx_next ?_
    | refine sw_seq ?_
    | refine sw_region ?_
    | refine sw_block ?_
    | refine swl_g_on (by rfl) (by rfl) ?_
    | refine sx_block_normal ?_
    | refine sw_cond_false (by rfl) ?_
    | refine sw_cond_pos (by rfl) (by first | assumption | omega) ?_
    | refine sw_skip ?_
    | fail)
    rename_i w1 va w2
    refine sx_back (i + 1, vl ++ [(a, newDev (1 + 16 * g.segs).toNat)], va, v1, e2 ++ [#[.pointer (some ⟨r1, 0, none⟩)]]) (by simp only; omega) ⟨by simp only; omega, ?_, by simp [hl2]⟩ (subE.cons rfl (subE.cons rfl (subE.cons rfl (subE.cons rfl (subE.cons rfl subE.nil))))) ?_
    · dsimp only
      rw [List.map_append, hvl, List.replicate_succ']; rfl
    · dsimp only
      refine Ent.pick (by focus ((repeat (first | exact Rem.here | apply Rem.there)); done)) (Ent.trans ?_ (devs_snoc vl a _))
      rw [List.map_append, List.map_append]
      (repeat (first | exact Ent.refl _ | exact Ent.nil | (apply Ent.pick; focus ((repeat (first | exact Rem.here | apply Rem.there)); done)) | apply Ent.drop))
  · repeat' (first
    | refine swl_op ?_
    | (refine s1_move ?_; refine sc_r (R_move (by rfl)) (by rfl) ?_)
    | (refine s1_load ?_; refine sc_r (L_load' (by rfl) (by infer_instance) (by rfl)) (by rfl) ?_)
    | (refine s1_fieldAddr ?_; refine sc_r (R_fieldAddr (by rfl)) (by rfl) ?_)
    | (refine s1_assign ?_; refine sc_r (R_assign (by rfl)) (by rfl) ?_)
    | (refine s1_bin ?_; first | refine sc_r (R_lss (by rfl) (by rfl)) (by rfl) ?_ | refine sc_r (R_add64 (by rfl) (by rfl) (by omega)) (by rfl) ?_ | refine sc_r (R_mul64 (by rfl) (by rfl) (by first | assumption | omega)) (by rfl) ?_)
    | (refine s1_call ?_; (refine sc_c (by rfl) (C_call (by rfl) (by infer_instance) (by rfl) (by rfl) (ref4_New' _ (by omega))) (by rfl) ?_; rintro _ _ ⟨r1, rfl, rfl⟩))
    | refine swl_nil ?_
    | refine sx_next ?_
    | refine sw_seq ?_
    | refine sw_region ?_
    | refine sx_past_exit ?_
    | refine sx_block_here ?_
    | refine sw_cond_neg (by rfl) (by first | assumption | omega) ?_
    | refine sw_ret ?_
    | refine sw_exit ?_
    | fail)
    obtain rfl : i = g.vols.toNat := by omega
    exact sx_ret_of (res5 rfl (ResOne.tmp rfl) (ResOne.tmp rfl) (ResOne.tmp rfl) (ResOne.tmp rfl) (ResOne.tmp rfl)) _ ⟨d, vl, sl, r1, rl, rfl, hvl, rfl⟩ (by (repeat (first | exact Ent.refl _ | exact Ent.nil | (apply Ent.pick; focus ((repeat (first | exact Rem.here | apply Rem.there)); done)) | apply Ent.drop)))
end Go.Proofs.YtcpfehldofmipaaDoor
