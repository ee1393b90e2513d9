/-
  Media: where an address lies; what is read and written there.
-/
import Derived.Test.YtcpfehldofmipaaDoorMed1
import Derived.Test.YtcpfehldofmipaaDoorLabel
namespace Go.Proofs.YtcpfehldofmipaaDoor
open Go Go.SL Go.Proofs

theorem where_ok {g : Geo} {a : Int} (h : (whereOf g a).2 = 0) : mayG g = true ∧ -1 ≤ (whereOf g a).1.vol ∧ (whereOf g a).1.vol < g.vols ∧ 0 ≤ (whereOf g a).1.seg ∧ (whereOf g a).1.seg < 256 ∧ 0 ≤ (whereOf g a).1.off ∧ (whereOf g a).1.off < 16 := by
  unfold whereOf at h ⊢
  by_cases h0 : (segOf g a).2 = 0
  · obtain ⟨hm, h1, h2, h3⟩ := segOf_ok h0
    have hg := mayG_is hm
    have hvs := vs_bd hm
    have hb : blocksG g = (g.disk + g.vols * g.segs) * 16 := by unfold blocksG segsG; rw [if_pos hm]
    rw [if_pos h0]
    by_cases hd : (segOf g a).1 < g.disk
    · rw [if_pos hd]
      exact ⟨hm, by simp only; omega, by simp only; omega, by simp only; omega, by simp only; omega, by simp only; omega, by simp only; omega⟩
    · rw [if_neg hd]
      have hlt : (segOf g a).1 - g.disk < g.vols * g.segs := by omega
      have h5 : ((segOf g a).1 - g.disk) / g.segs < g.vols := Int.ediv_lt_of_lt_mul (by omega) hlt
      have h6 : 0 ≤ ((segOf g a).1 - g.disk) / g.segs := Int.ediv_nonneg (by omega) (by omega)
      have h7 := Int.emod_nonneg ((segOf g a).1 - g.disk) (show g.segs ≠ 0 by omega)
      have h8 := Int.emod_lt_of_pos ((segOf g a).1 - g.disk) (show 0 < g.segs by omega)
      exact ⟨hm, by simp only; omega, by simp only; omega, by simp only; omega, by simp only; omega, by simp only; omega, by simp only; omega⟩
  · rw [if_neg h0] at h
    exact absurd h h0

def ptrc (a : Nat) : Array Value := #[.pointer (some ⟨a, 0, none⟩)]
def medCells (g : Geo) (d : Nat) (sv : Value) (gens : List Int) : Array Value := ([.int .i64 g.disk, .int .i64 g.lines, .int .i64 g.vols, .int .i64 g.segs, .pointer (some ⟨d, 0, none⟩), sv] ++ gens.map (Value.int .i64)).toArray
theorem ptr_get {l : List Nat} {g : Nat} (h : g < l.length) : (l.map ptrc).getD g #[] = #[.pointer (some ⟨l[g], 0, none⟩)] := by simp [h, ptrc]

/-- the device of a place: -1 the disk -/
def devAt (d : Nat) (vs : List Nat) (v : Int) : Nat := if v < 0 then d else vs.getD v.toNat 0
def idxAt (p : Place) : Int := if p.vol < 0 then 16 + (p.seg * 16 + p.off) else 1 + (p.seg * 16 + p.off)

theorem medium_block (m : Nat) (g : Geo) (d : Nat) (vs : List Nat) (gens : List Int) (a : Int) (hvs : (vs.length : Int) = g.vols) {L : List HP} {pv : Option Addr} {nv cv : Nat} {T : TypeId} (hm : ReadC L m (.cells (medCells g d (.slice pv nv cv) gens) T)) (hv : SlC L pv 1 nv cv (vs.map ptrc)) :
    Tr Tryd.prog 50 [.pointer (some ⟨m, 0, none⟩), .int .i64 a].toArray L
      (fun v L' => v = (if (whereOf g a).2 = 0 then .tuple #[.pointer (some ⟨devAt d vs (whereOf g a).1.vol, 0, none⟩), .int .i64 (idxAt (whereOf g a).1), .int .i64 0] else .tuple #[.pointer none, .int .i64 0, .int .i64 4]) ∧ L = L') := by
  have hlen : vs.length = nv := by simpa using hv.len
  refine tr_enter Tryd.func50 rfl Tryd.ntmps50 rfl fun w0 => ?_
  have hw := fun (L : List HP) => addr_Where g a (L := L)
  have hok := where_ok (g := g) (a := a)
  by_cases h0 : (whereOf g a).2 = 0
  · rw [if_pos h0]
    rw [h0] at hw
    replace hok := hok h0
    generalize (whereOf g a).1 = p at *
    obtain ⟨vol, seg, off⟩ := p
    simp only [Place.cells, Geo.cells] at hw hok
    by_cases hvol : vol < 0
    · simp only [devAt, idxAt, if_pos hvol]
      repeat' (first
    | (refine s1_load ?_; refine sc_r (L_load_part (by rfl) (by infer_instance) (by rfl) (by rfl)) (by rfl) ?_)
    | refine swl_op ?_
    | (refine s1_move ?_; refine sc_r (R_move (by rfl)) (by rfl) ?_)
    | (refine s1_load ?_; refine sc_r (L_load' (by rfl) (by infer_instance) (by rfl)) (by rfl) ?_)
    | (refine s1_fieldAddr ?_; refine sc_r (R_fieldAddr (by rfl)) (by rfl) ?_)
    | (refine s1_assign ?_; refine sc_r (R_assign (by rfl)) (by rfl) ?_)
    | (refine s1_bin ?_; first | refine sc_r (R_lss (by rfl) (by rfl)) (by rfl) ?_ | refine sc_r (R_add64 (by rfl) (by rfl) (by omega)) (by rfl) ?_ | refine sc_r (R_neq (by rfl) (by rfl)) (by rfl) ?_ | refine sc_r (R_mul64 (by rfl) (by rfl) (by first | assumption | omega)) (by rfl) ?_)
    | (refine s1_call ?_; (refine sc_c (by rfl) (C_call (by rfl) (by infer_instance) (by rfl) (by rfl) (hw _)) (by rfl) ?_; rintro _ _ ⟨rfl, rfl⟩))
    | (refine s1_store ?_; (refine sc_w (by rfl) (W_storeAll (by rfl) (by rfl) (by infer_instance) (by rfl) (by rfl) (by rfl)) (by rfl) ?_; rintro _ _ ⟨rfl, rfl⟩))
    | (refine s1_alloc ?_; (refine sc_w (by rfl) W_allocA (by rfl) ?_; rintro _ _ ⟨_, rfl, rfl⟩))
    | (refine s1_any ?_; first | refine sc_r (R_extract (by rfl) (by rfl)) (by rfl) ?_ | refine sc_r (R_nilCheck (by rfl)) (by rfl) ?_)
    | refine swl_nil ?_
    | refine sx_next ?_
    | refine sw_seq ?_
    | refine sw_region ?_
    | refine sx_past_ret ?_
    | refine sw_cond_false (by rfl) ?_
    | refine sw_cond_pos (by rfl) (by first | assumption | omega) ?_
    | refine sw_ret ?_
    | refine sw_skip ?_
    | fail)
      --DBG
      exact sx_ret_of (res3 rfl (ResOne.tmp rfl) (ResOne.tmp rfl) (ResOne.tmp rfl)) _ ⟨rfl, rfl⟩ (by (repeat (first | exact Ent.refl _ | exact Ent.nil | (apply Ent.pick; focus ((repeat (first | exact Rem.here | apply Rem.there)); done)) | apply Ent.drop)))
    · simp only [devAt, idxAt, if_neg hvol]
      obtain ⟨b1, o1, rfl⟩ := hv.ptr (by omega)
      have hl1 : vol.toNat < vs.length := by omega
      have he1 : (vs.map ptrc).getD vol.toNat #[] = #[.pointer (some ⟨vs.getD vol.toNat 0, 0, none⟩)] := by rw [ptr_get hl1]; simp [List.getD, hl1]
      repeat' (first
    | (refine s1_load ?_; refine sc_r (L_load_part (by rfl) (by infer_instance) (by rfl) (by rfl)) (by rfl) ?_)
    | refine swl_op ?_
    | (refine s1_move ?_; refine sc_r (R_move (by rfl)) (by rfl) ?_)
    | (refine s1_load ?_; first | refine sc_r (L_load' (by rfl) (by infer_instance) (by rfl)) (by rfl) ?_ | refine sc_r (L_load_el1 (by rfl) (by infer_instance) (by omega) (by first | assumption | rfl)) (by rfl) ?_)
    | (refine s1_fieldAddr ?_; refine sc_r (R_fieldAddr (by rfl)) (by rfl) ?_)
    | (refine s1_assign ?_; refine sc_r (R_assign (by rfl)) (by rfl) ?_)
    | (refine s1_bin ?_; first | refine sc_r (R_lss (by rfl) (by rfl)) (by rfl) ?_ | refine sc_r (R_add64 (by rfl) (by rfl) (by omega)) (by rfl) ?_ | refine sc_r (R_neq (by rfl) (by rfl)) (by rfl) ?_ | refine sc_r (R_mul64 (by rfl) (by rfl) (by first | assumption | omega)) (by rfl) ?_)
    | (refine s1_call ?_; (refine sc_c (by rfl) (C_call (by rfl) (by infer_instance) (by rfl) (by rfl) (hw _)) (by rfl) ?_; rintro _ _ ⟨rfl, rfl⟩))
    | (refine s1_indexAddr ?_; refine sc_r (R_indexAddr (by rfl) (by rfl) (by omega)) (by rfl) ?_)
    | (refine s1_store ?_; (refine sc_w (by rfl) (W_storeAll (by rfl) (by rfl) (by infer_instance) (by rfl) (by rfl) (by rfl)) (by rfl) ?_; rintro _ _ ⟨rfl, rfl⟩))
    | (refine s1_alloc ?_; (refine sc_w (by rfl) W_allocA (by rfl) ?_; rintro _ _ ⟨_, rfl, rfl⟩))
    | (refine s1_any ?_; first | refine sc_r (R_extract (by rfl) (by rfl)) (by rfl) ?_ | refine sc_r (R_nilCheck (by rfl)) (by rfl) ?_)
    | refine swl_nil ?_
    | refine sx_next ?_
    | refine sw_seq ?_
    | refine sw_region ?_
    | refine sw_cond_false (by rfl) ?_
    | refine sw_cond_neg (by rfl) (by first | assumption | omega) ?_
    | refine sw_ret ?_
    | refine sw_skip ?_
    | refine swh_lt (by rfl) (fun _ _ => wanted_none) ?_
    | refine swh_nil ?_
    | (refine sw_draw [(0, true), (1, true), (2, true), (3, true), (4, true), (5, true), (6, true), (7, true), (8, true), (9, true), (10, true), (11, true), (12, true)] follows ?_ ?_ ?_; (focus rfl); (focus (decide +kernel)))
    | fail)
      exact sx_ret_of (res3 rfl (ResOne.tmp rfl) (ResOne.tmp rfl) (ResOne.tmp rfl)) _ ⟨rfl, rfl⟩ (by (repeat (first | exact Ent.refl _ | exact Ent.nil | (apply Ent.pick; focus ((repeat (first | exact Rem.here | apply Rem.there)); done)) | apply Ent.drop)))
  · rw [if_neg h0]
    generalize (whereOf g a).2 = e at *
    generalize (whereOf g a).1 = p at *
    simp only [Place.cells, Geo.cells] at hw
    repeat' (first
    | (refine s1_load ?_; refine sc_r (L_load_part (by rfl) (by infer_instance) (by rfl) (by rfl)) (by rfl) ?_)
    | refine swl_op ?_
    | (refine s1_move ?_; refine sc_r (R_move (by rfl)) (by rfl) ?_)
    | (refine s1_fieldAddr ?_; refine sc_r (R_fieldAddr (by rfl)) (by rfl) ?_)
    | (refine s1_assign ?_; refine sc_r (R_assign (by rfl)) (by rfl) ?_)
    | (refine s1_bin ?_; refine sc_r (R_neq (by rfl) (by rfl)) (by rfl) ?_)
    | (refine s1_call ?_; (refine sc_c (by rfl) (C_call (by rfl) (by infer_instance) (by rfl) (by rfl) (hw _)) (by rfl) ?_; rintro _ _ ⟨rfl, rfl⟩))
    | (refine s1_store ?_; (refine sc_w (by rfl) (W_storeAll (by rfl) (by rfl) (by infer_instance) (by rfl) (by rfl) (by rfl)) (by rfl) ?_; rintro _ _ ⟨rfl, rfl⟩))
    | (refine s1_alloc ?_; (refine sc_w (by rfl) W_allocA (by rfl) ?_; rintro _ _ ⟨_, rfl, rfl⟩))
    | (refine s1_any ?_; first | refine sc_r (R_extract (by rfl) (by rfl)) (by rfl) ?_ | refine sc_r (R_nilCheck (by rfl)) (by rfl) ?_)
    | refine swl_nil ?_
    | refine sx_next ?_
    | refine sw_seq ?_
    | refine sw_region ?_
    | refine sx_past_ret ?_
    | refine sw_cond_nneg (by rfl) (by first | assumption | omega) ?_
    | refine sw_ret ?_
    | fail)
    exact sx_ret_of (res3 rfl (ResOne.tmp rfl) (ResOne.tmp rfl) (ResOne.tmp rfl)) _ ⟨rfl, rfl⟩ (by (repeat (first | exact Ent.refl _ | exact Ent.nil | (apply Ent.pick; focus ((repeat (first | exact Rem.here | apply Rem.there)); done)) | apply Ent.drop)))
end Go.Proofs.YtcpfehldofmipaaDoor
