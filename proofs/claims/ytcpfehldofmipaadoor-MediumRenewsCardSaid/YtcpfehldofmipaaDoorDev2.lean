/-
  Devices, walked: what waits is executed, forgotten.
-/
import Derived.Test.YtcpfehldofmipaaDoorDev1
namespace Go.Proofs.YtcpfehldofmipaaDoor
open Go Go.SL Go.Proofs

theorem dev_forget (a rn : Nat) {x0 x1 x3 x4 x5 x6 : Value} {T : TypeId} {d : TypeDesc} {f : Value → Option Value} {L : List HP} :
    Tr Tryd.prog 55 [.pointer (some ⟨a, 0, none⟩)].toArray (pt a (.cells #[x0, x1, .map (some rn), x3, x4, x5, x6] T) :: mp d rn f :: L)
      (fun v L' => v = .tuple #[] ∧ L' = pt a (.cells #[x0, .slice none 0 0, .map (some rn), x3, x4, x5, x6] T) :: mp d rn (fun _ => none) :: L) := by
  refine tr_enter Tryd.func55 rfl Tryd.ntmps55 rfl fun w0 => ?_
  repeat' (first
    | refine swl_op ?_
    | (refine s1_move ?_; refine sc_r (R_move (by rfl)) (by rfl) ?_)
    | (refine s1_load ?_; refine sc_r (L_load' (by rfl) (by infer_instance) (by rfl)) (by rfl) ?_)
    | (refine s1_fieldAddr ?_; refine sc_r (R_fieldAddr (by rfl)) (by rfl) ?_)
    | (refine s1_call ?_; (refine sc_w (by rfl) (W_clearM (by rfl) (by focus ((repeat (first | exact Rem.here | apply Rem.there)); done))) (by rfl) ?_; rintro _ _ ⟨rfl, rfl⟩))
    | (refine s1_store ?_; (refine sc_w (by rfl) (W_storeL (by rfl) (by rfl) (by infer_instance) (by rfl) (by rfl) (by rfl)) (by rfl) ?_; rintro _ _ ⟨rfl, rfl⟩))
    | (refine s1_any ?_; refine sc_r (R_nilCheck (by rfl)) (by rfl) ?_)
    | refine swl_nil ?_
    | refine sx_next ?_
    | refine sw_seq ?_
    | refine sw_region ?_
    | fail)
  exact sx_end_of (res0 rfl) _ ⟨rfl, rfl⟩ (by (repeat (first | exact Ent.refl _ | exact Ent.nil | (apply Ent.pick; focus ((repeat (first | exact Rem.here | apply Rem.there)); done)) | apply Ent.drop)))

/-- one of them is executed -/
def cut128 (f : Int) : Nat := (min (max f 0) 128).toNat
def wr1 (bs : List (List Int)) (x : Nat × List Int) (f : Int) : List (List Int) := bs.set x.1 (x.2.take (cut128 f) ++ (bs.getD x.1 []).drop (cut128 f))
def execB (far : Nat → Int) (p : List (Nat × List Int)) (bs : List (List Int)) : List (List Int) := p.zipIdx.foldl (fun bs x => wr1 bs x.1 (far x.2)) bs
theorem execB_snoc (far : Nat → Int) (p : List (Nat × List Int)) (x : Nat × List Int) (bs : List (List Int)) : execB far (p ++ [x]) bs = wr1 (execB far p bs) x (far p.length) := by
  simp [execB, List.zipIdx_append]
theorem wr1_len (bs : List (List Int)) (x : Nat × List Int) (f : Int) : (wr1 bs x f).length = bs.length := by simp [wr1]
theorem execB_len (far : Nat → Int) (p : List (Nat × List Int)) (bs : List (List Int)) : (execB far p bs).length = bs.length := by
  unfold execB
  generalize p.zipIdx = q
  induction q generalizing bs with
  | nil => rfl
  | cons x r ih => rw [List.foldl_cons, ih, wr1_len]
theorem wr1_128 {bs : List (List Int)} (h : ∀ l ∈ bs, l.length = 128) {x : Nat × List Int} (hx : x.2.length = 128 ∧ x.1 < bs.length) (f : Int) : ∀ l ∈ wr1 bs x f, l.length = 128 := by
  intro l hl
  rcases List.mem_or_eq_of_mem_set hl with hl | rfl
  · exact h l hl
  · have h1 : bs.getD x.1 [] = bs[x.1] := by simp [List.getD, hx.2]
    have h2 := h bs[x.1] (List.getElem_mem hx.2)
    have h3 : cut128 f ≤ 128 := by unfold cut128; omega
    rw [List.length_append, List.length_take, List.length_drop, h1, h2, hx.1]; omega
theorem execB_128 (far : Nat → Int) {p : List (Nat × List Int)} {bs : List (List Int)} (h : ∀ l ∈ bs, l.length = 128) (hp : ∀ x ∈ p, x.2.length = 128 ∧ x.1 < bs.length) : ∀ g, g ≤ p.length → ∀ l ∈ execB far (p.take g) bs, l.length = 128 := by
  intro g
  induction g with
  | zero => intro _; simpa [execB] using h
  | succ g ih =>
    intro hg
    have hlt : g < p.length := by omega
    rw [List.take_succ_eq_append_getElem hlt, execB_snoc]
    refine wr1_128 (ih (by omega)) ?_ _
    have := hp p[g] (List.getElem_mem hlt)
    rw [execB_len]; exact this
theorem wr1_cells (bs : List (List Int)) (x : Nat × List Int) (f : Int) (hx : x.1 < bs.length) :
    (bs.map bcell).set x.1 ((((wcell x).toList.drop (0 + 1)).take (min (max f 0) 128).toNat ++ ((bs.map bcell).getD x.1 #[]).toList.drop (min (max f 0) 128).toNat).toArray) = (wr1 bs x f).map bcell := by
  unfold wr1
  rw [List.map_set]
  congr 1
  unfold cut128
  generalize (min (max f 0) 128).toNat = n
  simp [bcell, wcell, List.getD, hx, List.map_take, List.map_drop]

set_option maxHeartbeats 2000000 in
theorem dev_execute (a : Nat) {fid : FuncId} {fi ca : Array Value} (hc : CallC Tryd.prog fid) (far : Nat → Int) {L : List HP} (hfar : ∀ (k : Nat) (L' : List HP), Ent L' L → Tr Tryd.prog fid (fi.toList ++ [Value.int .i64 (k : Int)] ++ ca.toList).toArray L' (fun v L'' => v = .int .i64 (far k) ∧ L' = L''))
    {bs : List (List Int)} {p : List (Nat × List Int)} (h128 : ∀ l ∈ bs, l.length = 128) (hp : ∀ x ∈ p, x.2.length = 128 ∧ x.1 < bs.length) {pb pp : Option Addr} {cb cp rn : Nat} {x3 x4 x5 x6 : Value} {T : TypeId} {d : TypeDesc} {f : Value → Option Value} [hpb : SlOK pb bs.length cb] [hpp : SlOK pp p.length cp] :
    Tr Tryd.prog 53 [.pointer (some ⟨a, 0, none⟩), .func (.func fid) fi ca].toArray
      (pt a (.cells #[.slice pb bs.length cb, .slice pp p.length cp, .map (some rn), x3, x4, x5, x6] T) :: vec 141 128 (bs.map bcell) (.slice pb bs.length cb) :: vec 144 129 (p.map wcell) (.slice pp p.length cp) :: mp d rn f :: L)
      (fun v L' => v = .tuple #[] ∧ L' = pt a (.cells #[.slice pb bs.length cb, .slice none 0 0, .map (some rn), x3, x4, x5, x6] T) :: vec 141 128 ((execB far p bs).map bcell) (.slice pb bs.length cb) :: mp d rn (fun _ => none) :: L) := by
  refine tr_enter Tryd.func53 rfl Tryd.ntmps53 rfl fun w0 => ?_
  have hbd := hpp.bd
  have hf2 : Fact' ((p.map wcell).length = p.length) := ⟨by simp⟩
  repeat' (first
    | refine swl_op ?_
    | (refine s1_move ?_; refine sc_r (R_move (by rfl)) (by rfl) ?_)
    | (refine s1_load ?_; refine sc_r (L_load' (by rfl) (by infer_instance) (by rfl)) (by rfl) ?_)
    | (refine s1_fieldAddr ?_; refine sc_r (R_fieldAddr (by rfl)) (by rfl) ?_)
    | (refine s1_call ?_; refine sc_r (R_len (by rfl)) (by rfl) ?_)
    | (refine s1_any ?_; refine sc_r (R_nilCheck (by rfl)) (by rfl) ?_)
    | refine swl_nil ?_
    | refine sx_next ?_
    | refine sw_seq ?_
    | refine sw_region ?_
    | refine sw_block ?_
    | fail)
  refine sw_loop (γ := Nat) (fun g => p.length - g) (fun g => [(0, .pointer (some ⟨a, 0, none⟩)), (1, .func (.func fid) fi ca), (10, .slice pp p.length cp), (11, .int .i64 p.length), (12, .int .i64 g)])
    (fun g => pt a (.cells #[.slice pb bs.length cb, .slice pp p.length cp, .map (some rn), x3, x4, x5, x6] T) :: vec 141 128 ((execB far (p.take g) bs).map bcell) (.slice pb bs.length cb) :: vec 144 129 (p.map wcell) (.slice pp p.length cp) :: mp d rn f :: L) (fun g => g ≤ p.length) 0 (by omega)
    (subE.cons rfl (subE.cons rfl (subE.cons rfl (subE.cons rfl (subE.cons rfl subE.nil))))) (by (repeat (first | exact Ent.refl _ | exact Ent.nil | (apply Ent.pick; focus ((repeat (first | exact Rem.here | apply Rem.there)); done)) | apply Ent.drop))) ?_
  intro g hg
  have hlen := execB_len far (p.take g) bs
  by_cases hlt : g < p.length
  · obtain ⟨b1, o1, rfl⟩ := hpp.ptr (by omega)
    have he1 : (p.map wcell).getD g #[] = wcell p[g] := by simp [hlt]
    have hx := hp p[g] (List.getElem_mem hlt)
    have hts := List.take_succ_eq_append_getElem hlt
    obtain ⟨b2, o2, rfl⟩ := hpb.ptr (by omega)
    have hsn := execB_snoc far (p.take g) p[g] bs
    rw [← hts, List.length_take, show min g p.length = g by omega] at hsn
    generalize p[g] = x at *
    generalize execB far (p.take g) bs = bs1 at *
    have hwc := wr1_cells bs1 x (far g) (by omega)
    rw [← hsn] at hwc
    have hf1 : Fact' ((bs1.map bcell).length = bs.length) := ⟨by simp [hlen]⟩
    have hws := wcell_size x
    repeat' (first
    | refine swl_op ?_
    | (refine s1_move ?_; refine sc_r (R_move (by rfl)) (by rfl) ?_)
    | (refine s1_load ?_; refine sc_r (L_load_el (by rfl) (by infer_instance) (by infer_instance) (by omega) (by first | assumption | rfl)) (by rfl) ?_)
    | (refine s1_assign ?_; refine sc_r (R_assign (by rfl)) (by rfl) ?_)
    | (refine s1_bin ?_; refine sc_r (R_lss (by rfl) (by rfl)) (by rfl) ?_)
    | (refine s1_call ?_; first | (refine sc_c (by rfl) (C_call (by rfl) hc (by rfl) (by rfl) (hfar g _ (by (repeat (first | exact Ent.refl _ | exact Ent.nil | (apply Ent.pick; focus ((repeat (first | exact Rem.here | apply Rem.there)); done)) | apply Ent.drop))))) (by rfl) ?_; rintro _ _ ⟨rfl, rfl⟩) | refine sc_r (R_max (by rfl) (by rfl)) (by rfl) ?_ | refine sc_r (R_min (by rfl) (by rfl)) (by rfl) ?_)
    | (refine s1_indexAddr ?_; refine sc_r (R_indexAddr (by rfl) (by rfl) (by omega)) (by rfl) ?_)
    | (refine s1_store ?_; (refine sc_w (by rfl) (W_storeAllS (by rfl) (by rfl) (by infer_instance) (by omega) (by rfl) (by intro v hv; simp only [wcell, List.toList_toArray, List.mem_cons, List.mem_map] at hv; rcases hv with rfl | ⟨z, _, rfl⟩ <;> rfl)) (by rfl) ?_; rintro _ _ ⟨rfl, rfl⟩))
    | (refine s1_alloc ?_; (refine sc_w (by rfl) W_allocA (by rfl) ?_; rintro _ _ ⟨_, rfl, rfl⟩))
    | refine swl_nil ?_
    | refine sx_next ?_
    | refine sw_seq ?_
    | refine sw_region ?_
    | refine sw_block ?_
    | refine sw_cond_pos (by rfl) (by first | assumption | omega) ?_
    | refine sw_skip ?_
    | fail)
    rename_i b5
    have hwo : ∀ v ∈ (wcell x).toList, v.oneCell' = true := by intro v hv; simp only [wcell, List.toList_toArray, List.mem_cons, List.mem_map] at hv; rcases hv with rfl | ⟨z, _, rfl⟩ <;> rfl
    repeat' (first
    | (refine s1_slice ?_; refine sc_r (R_sliceArr_h (by rfl) (by rfl) (by omega)) (by rfl) ?_)
    | refine swl_op ?_
    | (refine s1_move ?_; refine sc_r (R_move (by rfl)) (by rfl) ?_)
    | (refine s1_load ?_; refine sc_r (L_load' (by rfl) (by infer_instance) (by rfl)) (by rfl) ?_)
    | (refine s1_fieldAddr ?_; refine sc_r (R_fieldAddr (by rfl)) (by rfl) ?_)
    | (refine s1_bin ?_; refine sc_r (R_add64 (by rfl) (by rfl) (by omega)) (by rfl) ?_)
    | (refine s1_call ?_; (refine sc_w (by rfl) (W_copyArr (by rfl) (by rfl) (by focus ((repeat (first | exact Rem.here | apply Rem.there)); done)) (by infer_instance) (by omega) hwo (by rw [List.length_map]; omega) (by omega)) (by rfl) ?_; rintro _ _ ⟨rfl, rfl⟩; rw [Int.toNat_natCast, hwc]))
    | (refine s1_indexAddr ?_; refine sc_r (R_indexAddr (by rfl) (by rfl) (by omega)) (by rfl) ?_)
    | (refine s1_any ?_; refine sc_r (R_nilCheck (by rfl)) (by rfl) ?_)
    | refine swl_nil ?_
    | refine sx_next ?_
    | refine sw_region ?_
    | refine sx_block_normal ?_
    | refine swh_lt (by rfl) (fun _ _ => wanted_none) ?_
    | refine swh_hv (by rfl) (fun _ _ => wanted_none) ?_
    | refine swh_nil ?_
    | (apply And.intro; focus ((repeat (first | exact Ent.refl _ | exact Ent.nil | (apply Ent.pick; focus ((repeat (first | exact Rem.here | apply Rem.there)); done)) | apply Ent.drop)); done))
    | (refine sw_region_draw (pt b5 (.cells (wcell x) 144) :: pt a (.cells #[.slice (some ⟨b2, o2, none⟩) bs.length cb, .slice (some ⟨b1, o1, none⟩) p.length cp, .map (some rn), x3, x4, x5, x6] T) :: L) [(0, true), (1, true), (2, true), (3, true), (4, true), (5, true), (6, true), (7, true), (8, true), (9, true), (10, true), (11, true), (12, false)] follows ?_ ?_ ?_ ?_; (focus rfl); (focus (decide +kernel)); (focus ((repeat (first | exact Ent.refl _ | exact Ent.nil | (apply Ent.pick; focus ((repeat (first | exact Rem.here | apply Rem.there)); done)) | apply Ent.drop)); done)))
    | fail)
    --DBG
    exact sx_back (g + 1) (by omega) (by omega) (subE.cons rfl (subE.cons rfl (subE.cons rfl (subE.cons rfl (subE.cons rfl subE.nil))))) (by (repeat (first | exact Ent.refl _ | exact Ent.nil | (apply Ent.pick; focus ((repeat (first | exact Rem.here | apply Rem.there)); done)) | apply Ent.drop)))
  · rw [List.take_of_length_le (by omega)]
    repeat' (first
    | refine swl_op ?_
    | (refine s1_move ?_; refine sc_r (R_move (by rfl)) (by rfl) ?_)
    | (refine s1_bin ?_; refine sc_r (R_lss (by rfl) (by rfl)) (by rfl) ?_)
    | (refine s1_call ?_; (refine sc_c (by rfl) (C_call (by rfl) (by infer_instance) (by rfl) (by rfl) (Tr.ent (Ent.pick (by focus ((repeat (first | exact Rem.here | apply Rem.there)); done)) (Ent.pick (by focus ((repeat (first | exact Rem.here | apply Rem.there)); done)) (Ent.refl _))) (dev_forget a rn))) (by rfl) ?_; rintro _ _ ⟨rfl, rfl⟩))
    | refine swl_nil ?_
    | refine sx_next ?_
    | refine sw_seq ?_
    | refine sw_region ?_
    | refine sx_past_exit ?_
    | refine sx_block_here ?_
    | refine sw_cond_neg (by rfl) (by first | assumption | omega) ?_
    | refine sw_exit ?_
    | fail)
    exact sx_end_of (res0 rfl) _ ⟨rfl, rfl⟩ (by (repeat (first | exact Ent.refl _ | exact Ent.nil | (apply Ent.pick; focus ((repeat (first | exact Rem.here | apply Rem.there)); done)) | apply Ent.drop)))
end Go.Proofs.YtcpfehldofmipaaDoor
