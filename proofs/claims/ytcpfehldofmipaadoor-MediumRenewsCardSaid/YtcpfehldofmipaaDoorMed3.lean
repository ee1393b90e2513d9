/-
  Media: the public functions that read, write, flush.
-/
import Derived.Test.YtcpfehldofmipaaDoorMed2
namespace Go.Proofs.YtcpfehldofmipaaDoor
open Go Go.SL Go.Proofs

structure MedOK (g : Geo) (vs : List Nat) (gens : List Int) : Prop where
  g8 : gens.length = 8
  nv : (vs.length : Int) = g.vols
  may : mayG g = true
  gr : ∀ x ∈ gens, -1 ≤ x ∧ x ≤ 4294967295
/-- a medium at m, on the disk d and the volumes vs -/
def medP (m d : Nat) (vs : List Nat) (g : Geo) (gens : List Int) : HP := ex fun sv : Value => st [pt m (.cells (medCells g d sv gens) 97), vec 26 1 (vs.map ptrc) sv, fact (MedOK g vs gens)]
attribute [irreducible] medP
theorem medP_open {m d : Nat} {vs : List Nat} {g : Geo} {gens : List Int} {L : List HP} {h : Hp} (H : Own (medP m d vs g gens :: L) h) : ∃ pv cv, SlOK pv vs.length cv ∧ MedOK g vs gens ∧
    Own (pt m (.cells (medCells g d (.slice pv vs.length cv) gens) 97) :: vec 26 1 (vs.map ptrc) (.slice pv vs.length cv) :: L) h := by
  unfold medP at H
  obtain ⟨sv, H⟩ := own_ex H
  replace H := own_st H
  simp only [List.cons_append, List.nil_append] at H
  obtain ⟨pv, cv, rfl, h1⟩ := vec_fact (Ent.own (show Ent _ [vec 26 1 (vs.map ptrc) sv] from by (repeat (first | exact Ent.refl _ | exact Ent.nil | (apply Ent.pick; focus ((repeat (first | exact Rem.here | apply Rem.there)); done)) | apply Ent.drop))) H)
  have hOK : MedOK g vs gens := own_fact (Ent.own (show Ent _ [fact (MedOK g vs gens)] from by (repeat (first | exact Ent.refl _ | exact Ent.nil | (apply Ent.pick; focus ((repeat (first | exact Rem.here | apply Rem.there)); done)) | apply Ent.drop))) H)
  simp only [List.length_map] at H h1
  exact ⟨pv, cv, h1, hOK, Ent.own (by (repeat (first | exact Ent.refl _ | exact Ent.nil | (apply Ent.pick; focus ((repeat (first | exact Rem.here | apply Rem.there)); done)) | apply Ent.drop))) H⟩
theorem med_close {m d : Nat} {vs : List Nat} {g : Geo} {gens : List Int} {L : List HP} {sv : Value} (hOK : MedOK g vs gens) :
    Ent (pt m (.cells (medCells g d sv gens) 97) :: vec 26 1 (vs.map ptrc) sv :: L) (medP m d vs g gens :: L) := by
  refine (Ent.fact_intro hOK).trans ?_
  unfold medP
  refine Ent.trans ?_ (Ent.ex_intro sv)
  refine Ent.trans ?_ Ent.shut_st
  simp only [List.cons_append, List.nil_append]
  (repeat (first | exact Ent.refl _ | exact Ent.nil | (apply Ent.pick; focus ((repeat (first | exact Rem.here | apply Rem.there)); done)) | apply Ent.drop))
section
variable {P : Program} {f : FuncId} {args : Array Value} {L : List HP} {R : Value → List HP → Prop}
theorem Tr.open_med {m d : Nat} {vs : List Nat} {g : Geo} {gens : List Int} (h : ∀ pv cv, SlOK pv vs.length cv → MedOK g vs gens →
    Tr P f args (pt m (.cells (medCells g d (.slice pv vs.length cv) gens) 97) :: vec 26 1 (vs.map ptrc) (.slice pv vs.length cv) :: L) R) : Tr P f args (medP m d vs g gens :: L) R := .mk fun w0 w hs => by
  obtain ⟨pv, cv, h1, h2, H⟩ := medP_open hs.own
  exact (h pv cv h1 h2).h w0 w ⟨hs.os, hs.tape, hs.output, hs.size, hs.drawn, H⟩
end

theorem medium_is (m : Nat) (v : Int) (g : Geo) (d : Nat) (gens : List Int) {nv : Nat} {pv : Option Addr} {cv : Nat} {T : TypeId} {L : List HP} (hm : ReadC L m (.cells (medCells g d (.slice pv nv cv) gens) T)) :
    Tr Tryd.prog 52 [.pointer (some ⟨m, 0, none⟩), .int .i64 v].toArray L (fun r L' => r = .bool (decide (0 ≤ v ∧ v < nv)) ∧ L = L') := by
  refine tr_enter Tryd.func52 rfl Tryd.ntmps52 rfl fun w0 => ?_
  repeat' (first
    | refine swl_op ?_
    | (refine s1_move ?_; refine sc_r (R_move (by rfl)) (by rfl) ?_)
    | (refine s1_load ?_; refine sc_r (L_load' (by rfl) (by infer_instance) (by rfl)) (by rfl) ?_)
    | (refine s1_fieldAddr ?_; refine sc_r (R_fieldAddr (by rfl)) (by rfl) ?_)
    | (refine s1_assign ?_; refine sc_r (R_assign (by rfl)) (by rfl) ?_)
    | (refine s1_pick ?_; first | refine sc_r (R_pick_t (by rfl) (by rfl)) (by rfl) ?_ | refine sc_r (R_pick_f (by rfl) (by rfl)) (by rfl) ?_)
    | (refine s1_bin ?_; first | refine sc_r (R_lss (by rfl) (by rfl)) (by rfl) ?_ | refine sc_r (R_geq (by rfl) (by rfl)) (by rfl) ?_)
    | (refine s1_call ?_; refine sc_r (R_len (by rfl)) (by rfl) ?_)
    | (refine s1_any ?_; refine sc_r (R_nilCheck (by rfl)) (by rfl) ?_)
    | refine swl_nil ?_
    | refine sx_next ?_
    | refine sw_seq ?_
    | refine sw_region ?_
    | refine swl_g_on (by rfl) (by rfl) ?_
    | refine swl_g_off (by rfl) (by rfl) (by rfl) (by rfl) ?_
    | refine swl_g_dec (by rfl) (by rfl) (fun hp => ?_) (fun hp => ?_)
    | refine sw_ret ?_
    | fail)
  all_goals refine sx_ret_of (res1 rfl (ResOne.tmp rfl)) L ⟨?_, rfl⟩ (by (repeat (first | exact Ent.refl _ | exact Ent.nil | (apply Ent.pick; focus ((repeat (first | exact Rem.here | apply Rem.there)); done)) | apply Ent.drop)))
  all_goals (congr 1; simp; omega)
theorem medium_is' (m : Nat) (v : Int) (t : Bool) {nv : Nat} {pv : Option Addr} {cv : Nat} {g : Geo} {d : Nat} {gens : List Int} {T : TypeId} {L : List HP} (hm : ReadC L m (.cells (medCells g d (.slice pv nv cv) gens) T)) (h : decide (0 ≤ v ∧ v < (nv : Int)) = t) :
    Tr Tryd.prog 52 [.pointer (some ⟨m, 0, none⟩), .int .i64 v].toArray L (fun r L' => r = .bool t ∧ L = L') := h ▸ medium_is m v g d gens hm

def devOf (s : DevS) (vl : List (Nat × DevS)) (v : Int) : DevS := if v < 0 then s else (vl.getD v.toNat (0, s)).2
def rdME (g : Geo) (s : DevS) (vl : List (Nat × DevS)) (a : Int) : Int := if (whereOf g a).2 = 0 then rdE (devOf s vl (whereOf g a).1.vol) (idxAt (whereOf g a).1) else 4
def rdMB (g : Geo) (s : DevS) (vl : List (Nat × DevS)) (a : Int) : List Int := if (whereOf g a).2 = 0 then rdB (devOf s vl (whereOf g a).1.vol) (idxAt (whereOf g a).1) else []

set_option maxHeartbeats 1000000 in
theorem medium_Read (m d : Nat) (g : Geo) (gens : List Int) (s : DevS) (vl : List (Nat × DevS)) (a : Int) {F : List HP} :
    Tr Tryd.prog 21 [.pointer (some ⟨m, 0, none⟩), .int .i64 a].toArray (medP m d (vl.map Prod.fst) g gens :: devP d s :: devsP vl :: F)
      (fun v L' => ∃ sl, v = .tuple #[sl, .int .i64 (rdME g s vl a)] ∧ L' = vec 141 1 ((rdMB g s vl a).map u8c) sl :: medP m d (vl.map Prod.fst) g gens :: devP d s :: devsP vl :: F) := by
  refine Tr.open_med fun pv cv h1 h2 => ?_
  refine tr_enter Tryd.func21 rfl Tryd.ntmps21 rfl fun w0 => ?_
  have hB := fun (L : List HP) (hm : ReadC L m (.cells (medCells g d (.slice pv (vl.map Prod.fst).length cv) gens) 97)) (hv : SlC L pv 1 (vl.map Prod.fst).length cv ((vl.map Prod.fst).map ptrc)) => medium_block m g d (vl.map Prod.fst) gens a h2.nv hm hv
  unfold rdME rdMB
  have hok := where_ok (g := g) (a := a)
  by_cases h0 : (whereOf g a).2 = 0
  · rw [if_pos h0, if_pos h0]
    simp only [if_pos h0] at hB
    replace hok := hok h0
    generalize (whereOf g a).1 = p at *
    by_cases hvol : p.vol < 0
    · simp only [devAt, devOf, if_pos hvol] at hB ⊢
      repeat' (first
    | refine swl_op ?_
    | (refine s1_move ?_; refine sc_r (R_move (by rfl)) (by rfl) ?_)
    | (refine s1_assign ?_; refine sc_r (R_assign (by rfl)) (by rfl) ?_)
    | (refine s1_bin ?_; refine sc_r (R_neq (by rfl) (by rfl)) (by rfl) ?_)
    | (refine s1_call ?_; first | (refine sc_c (by rfl) (C_call (by rfl) (by infer_instance) (by rfl) (by rfl) (hB _ (by infer_instance) (by infer_instance))) (by rfl) ?_; rintro _ _ ⟨rfl, rfl⟩) | (refine sc_c (by rfl) (C_call (by rfl) (by infer_instance) (by rfl) (by rfl) (Tr.ent (Ent.pick (by focus ((repeat (first | exact Rem.here | apply Rem.there)); done)) (Ent.refl _)) (dev_Read d s (idxAt p)))) (by rfl) ?_; rintro _ _ ⟨sl, rfl, rfl⟩))
    | (refine s1_any ?_; refine sc_r (R_extract (by rfl) (by rfl)) (by rfl) ?_)
    | refine swl_nil ?_
    | refine sx_next ?_
    | refine sw_seq ?_
    | refine sw_region ?_
    | refine sw_cond_false (by rfl) ?_
    | refine sw_ret ?_
    | refine sw_skip ?_
    | fail)
      refine sx_ret_of (res2 rfl (ResOne.tmp rfl) (ResOne.tmp rfl)) _ ⟨_, rfl, rfl⟩ ?_
      refine Ent.pick (by focus ((repeat (first | exact Rem.here | apply Rem.there)); done)) (Ent.trans ?_ (med_close h2 (sv := .slice pv (vl.map Prod.fst).length cv)))
      (repeat (first | exact Ent.refl _ | exact Ent.nil | (apply Ent.pick; focus ((repeat (first | exact Rem.here | apply Rem.there)); done)) | apply Ent.drop))
    · have hnv := h2.nv
      rw [List.length_map] at hnv
      have hi : p.vol.toNat < vl.length := by omega
      have hp1 : (vl.map Prod.fst).getD p.vol.toNat 0 = vl[p.vol.toNat].1 := by simp [List.getD, hi]
      have hp2 : (vl.getD p.vol.toNat (0, s)).2 = vl[p.vol.toNat].2 := by simp [List.getD, hi]
      simp only [devAt, devOf, if_neg hvol, hp1, hp2] at hB ⊢
      repeat' (first
    | refine swl_op ?_
    | (refine s1_move ?_; refine sc_r (R_move (by rfl)) (by rfl) ?_)
    | (refine s1_assign ?_; refine sc_r (R_assign (by rfl)) (by rfl) ?_)
    | (refine s1_bin ?_; refine sc_r (R_neq (by rfl) (by rfl)) (by rfl) ?_)
    | (refine s1_call ?_; first | (refine sc_c (by rfl) (C_call (by rfl) (by infer_instance) (by rfl) (by rfl) (hB _ (by infer_instance) (by infer_instance))) (by rfl) ?_; rintro _ _ ⟨rfl, rfl⟩) | (refine sc_c (by rfl) (C_call (by rfl) (by infer_instance) (by rfl) (by rfl) (Tr.ent (Ent.trans (Ent.pick (by focus ((repeat (first | exact Rem.here | apply Rem.there)); done)) (Ent.refl _)) (devs_cut vl p.vol.toNat hi)) (dev_Read vl[p.vol.toNat].1 vl[p.vol.toNat].2 (idxAt p)))) (by rfl) ?_; rintro _ _ ⟨sl, rfl, rfl⟩))
    | (refine s1_any ?_; refine sc_r (R_extract (by rfl) (by rfl)) (by rfl) ?_)
    | refine swl_nil ?_
    | refine sx_next ?_
    | refine sw_seq ?_
    | refine sw_region ?_
    | refine sw_cond_false (by rfl) ?_
    | refine sw_ret ?_
    | refine sw_skip ?_
    | fail)
      refine sx_ret_of (res2 rfl (ResOne.tmp rfl) (ResOne.tmp rfl)) _ ⟨_, rfl, rfl⟩ ?_
      refine Ent.pick (by focus ((repeat (first | exact Rem.here | apply Rem.there)); done)) (Ent.trans ?_ (med_close h2 (sv := .slice pv (vl.map Prod.fst).length cv)))
      refine Ent.pick (by focus ((repeat (first | exact Rem.here | apply Rem.there)); done)) (Ent.pick (by focus ((repeat (first | exact Rem.here | apply Rem.there)); done)) (Ent.pick (by focus ((repeat (first | exact Rem.here | apply Rem.there)); done)) ?_))
      exact devs_same vl p.vol.toNat hi
  · rw [if_neg h0, if_neg h0]
    simp only [if_neg h0] at hB
    repeat' (first
    | refine swl_op ?_
    | (refine s1_move ?_; refine sc_r (R_move (by rfl)) (by rfl) ?_)
    | (refine s1_assign ?_; refine sc_r (R_assign (by rfl)) (by rfl) ?_)
    | (refine s1_bin ?_; refine sc_r (R_neq (by rfl) (by rfl)) (by rfl) ?_)
    | (refine s1_call ?_; (refine sc_c (by rfl) (C_call (by rfl) (by infer_instance) (by rfl) (by rfl) (hB _ (by infer_instance) (by infer_instance))) (by rfl) ?_; rintro _ _ ⟨rfl, rfl⟩))
    | (refine s1_any ?_; refine sc_r (R_extract (by rfl) (by rfl)) (by rfl) ?_)
    | refine swl_nil ?_
    | refine sx_next ?_
    | refine sw_seq ?_
    | refine sw_region ?_
    | refine sx_past_ret ?_
    | refine sw_cond_true (by rfl) ?_
    | refine sw_ret ?_
    | fail)
    refine sx_ret_of (res2 rfl (ResOne.tmp rfl) (ResOne.tmp rfl)) _ ⟨_, rfl, rfl⟩ (Ent.trans (Ent.trans ?_ (med_close h2 (sv := .slice pv (vl.map Prod.fst).length cv))) Ent.vec_nil)
    (repeat (first | exact Ent.refl _ | exact Ent.nil | (apply Ent.pick; focus ((repeat (first | exact Rem.here | apply Rem.there)); done)) | apply Ent.drop))

def wrME (g : Geo) (s : DevS) (vl : List (Nat × DevS)) (a : Int) (n : Nat) : Int := if (whereOf g a).2 = 0 then wrE (devOf s vl (whereOf g a).1.vol) (idxAt (whereOf g a).1) n else 4
def wrMD (g : Geo) (s : DevS) (a : Int) (b : List Int) : DevS := if (whereOf g a).2 = 0 ∧ (whereOf g a).1.vol < 0 then wrS s (idxAt (whereOf g a).1) b else s
def setV (vl : List (Nat × DevS)) (i : Nat) (f : DevS → DevS) : List (Nat × DevS) := vl.modify i fun x => (x.1, f x.2)
theorem setV_len (vl : List (Nat × DevS)) (i : Nat) (f : DevS → DevS) : (setV vl i f).length = vl.length := by simp [setV]
theorem setV_set {vl : List (Nat × DevS)} {i : Nat} (h : i < vl.length) (f : DevS → DevS) : setV vl i f = vl.set i (vl[i].1, f vl[i].2) := by
  apply List.ext_getElem?
  intro k
  simp only [setV, List.getElem?_modify, List.getElem?_set]
  by_cases hk : i = k
  · subst hk; simp [h]
  · simp [hk]
theorem setV_fst (vl : List (Nat × DevS)) (i : Nat) (f : DevS → DevS) : (setV vl i f).map Prod.fst = vl.map Prod.fst := by
  apply List.ext_getElem?
  intro k
  simp only [setV, List.getElem?_map, List.getElem?_modify]
  by_cases h : i = k
  · subst h
    simp only [if_true]
    cases vl[i]? <;> rfl
  · simp [h]
def wrMV (g : Geo) (vl : List (Nat × DevS)) (a : Int) (b : List Int) : List (Nat × DevS) := if (whereOf g a).2 = 0 ∧ 0 ≤ (whereOf g a).1.vol then setV vl (whereOf g a).1.vol.toNat (fun s => wrS s (idxAt (whereOf g a).1) b) else vl
theorem wrMV_fst (g : Geo) (vl : List (Nat × DevS)) (a : Int) (b : List Int) : (wrMV g vl a b).map Prod.fst = vl.map Prod.fst := by
  unfold wrMV; split
  · exact setV_fst _ _ _
  · rfl

set_option maxHeartbeats 1000000 in
theorem medium_Write (m d : Nat) (g : Geo) (gens : List Int) (s : DevS) (vl : List (Nat × DevS)) (a : Int) (b : List Int) (hps : s.pend.length ≤ 1000000000) (hpv : ∀ x ∈ vl, x.2.pend.length ≤ 1000000000) {p : Option Addr} {n c : Nat} {F : List HP} (hb : SlC F p 1 n c (b.map u8c)) :
    Tr Tryd.prog 16 [.pointer (some ⟨m, 0, none⟩), .int .i64 a, .slice p n c].toArray (medP m d (vl.map Prod.fst) g gens :: devP d s :: devsP vl :: F)
      (fun v L' => v = .int .i64 (wrME g s vl a b.length) ∧ L' = medP m d (vl.map Prod.fst) g gens :: devP d (wrMD g s a b) :: devsP (wrMV g vl a b) :: F) := by
  refine Tr.open_med fun pv cv h1 h2 => ?_
  refine tr_enter Tryd.func16 rfl Tryd.ntmps16 rfl fun w0 => ?_
  have hB := fun (L : List HP) (hm : ReadC L m (.cells (medCells g d (.slice pv (vl.map Prod.fst).length cv) gens) 97)) (hv : SlC L pv 1 (vl.map Prod.fst).length cv ((vl.map Prod.fst).map ptrc)) => medium_block m g d (vl.map Prod.fst) gens a h2.nv hm hv
  unfold wrME wrMD wrMV
  have hok := where_ok (g := g) (a := a)
  by_cases h0 : (whereOf g a).2 = 0
  · rw [if_pos h0]
    simp only [if_pos h0] at hB
    simp only [h0, true_and]
    replace hok := hok h0
    generalize (whereOf g a).1 = q at *
    by_cases hvol : q.vol < 0
    · rw [if_neg (show ¬ 0 ≤ q.vol by omega)]
      simp only [devAt, devOf, if_pos hvol] at hB ⊢
      repeat' (first
    | refine swl_op ?_
    | (refine s1_move ?_; refine sc_r (R_move (by rfl)) (by rfl) ?_)
    | (refine s1_assign ?_; refine sc_r (R_assign (by rfl)) (by rfl) ?_)
    | (refine s1_bin ?_; refine sc_r (R_neq (by rfl) (by rfl)) (by rfl) ?_)
    | (refine s1_call ?_; first | (refine sc_c (by rfl) (C_call (by rfl) (by infer_instance) (by rfl) (by rfl) (hB _ (by infer_instance) (by infer_instance))) (by rfl) ?_; rintro _ _ ⟨rfl, rfl⟩) | (refine sc_c (by rfl) (C_call (by rfl) (by infer_instance) (by rfl) (by rfl) (Tr.ent (Ent.pick (by focus ((repeat (first | exact Rem.here | apply Rem.there)); done)) (Ent.refl _)) (dev_Write d s (idxAt q) b hps (by infer_instance)))) (by rfl) ?_; rintro _ _ ⟨rfl, rfl⟩))
    | (refine s1_any ?_; refine sc_r (R_extract (by rfl) (by rfl)) (by rfl) ?_)
    | refine swl_nil ?_
    | refine sx_next ?_
    | refine sw_seq ?_
    | refine sw_region ?_
    | refine sw_cond_false (by rfl) ?_
    | refine sw_ret ?_
    | refine sw_skip ?_
    | fail)
      refine sx_ret_of (res1 rfl (ResOne.tmp rfl)) _ ⟨rfl, rfl⟩ (Ent.trans ?_ (med_close h2 (sv := .slice pv (vl.map Prod.fst).length cv)))
      (repeat (first | exact Ent.refl _ | exact Ent.nil | (apply Ent.pick; focus ((repeat (first | exact Rem.here | apply Rem.there)); done)) | apply Ent.drop))
    · have hnv := h2.nv
      rw [List.length_map] at hnv
      have hi : q.vol.toNat < vl.length := by omega
      have hp1 : (vl.map Prod.fst).getD q.vol.toNat 0 = vl[q.vol.toNat].1 := by simp [List.getD, hi]
      have hp2 : (vl.getD q.vol.toNat (0, s)).2 = vl[q.vol.toNat].2 := by simp [List.getD, hi]
      rw [if_pos (show 0 ≤ q.vol by omega)]
      simp only [devAt, devOf, if_neg hvol, hp1, hp2] at hB ⊢
      have hpq := hpv vl[q.vol.toNat] (List.getElem_mem hi)
      repeat' (first
    | refine swl_op ?_
    | (refine s1_move ?_; refine sc_r (R_move (by rfl)) (by rfl) ?_)
    | (refine s1_assign ?_; refine sc_r (R_assign (by rfl)) (by rfl) ?_)
    | (refine s1_bin ?_; refine sc_r (R_neq (by rfl) (by rfl)) (by rfl) ?_)
    | (refine s1_call ?_; first | (refine sc_c (by rfl) (C_call (by rfl) (by infer_instance) (by rfl) (by rfl) (hB _ (by infer_instance) (by infer_instance))) (by rfl) ?_; rintro _ _ ⟨rfl, rfl⟩) | (refine sc_c (by rfl) (C_call (by rfl) (by infer_instance) (by rfl) (by rfl) (Tr.ent (Ent.trans (Ent.pick (by focus ((repeat (first | exact Rem.here | apply Rem.there)); done)) (Ent.refl _)) (devs_cut vl q.vol.toNat hi)) (dev_Write vl[q.vol.toNat].1 vl[q.vol.toNat].2 (idxAt q) b hpq (by infer_instance)))) (by rfl) ?_; rintro _ _ ⟨rfl, rfl⟩))
    | (refine s1_any ?_; refine sc_r (R_extract (by rfl) (by rfl)) (by rfl) ?_)
    | refine swl_nil ?_
    | refine sx_next ?_
    | refine sw_seq ?_
    | refine sw_region ?_
    | refine sw_cond_false (by rfl) ?_
    | refine sw_ret ?_
    | refine sw_skip ?_
    | fail)
      refine sx_ret_of (res1 rfl (ResOne.tmp rfl)) _ ⟨rfl, rfl⟩ (Ent.trans ?_ (med_close h2 (sv := .slice pv (vl.map Prod.fst).length cv)))
      refine Ent.pick (by focus ((repeat (first | exact Rem.here | apply Rem.there)); done)) (Ent.pick (by focus ((repeat (first | exact Rem.here | apply Rem.there)); done)) (Ent.pick (by focus ((repeat (first | exact Rem.here | apply Rem.there)); done)) ?_))
      rw [setV_set hi]
      exact devs_put vl q.vol.toNat hi _
  · rw [if_neg h0, if_neg (by simp [h0]), if_neg (by simp [h0])]
    simp only [if_neg h0] at hB
    repeat' (first
    | refine swl_op ?_
    | (refine s1_move ?_; refine sc_r (R_move (by rfl)) (by rfl) ?_)
    | (refine s1_assign ?_; refine sc_r (R_assign (by rfl)) (by rfl) ?_)
    | (refine s1_bin ?_; refine sc_r (R_neq (by rfl) (by rfl)) (by rfl) ?_)
    | (refine s1_call ?_; (refine sc_c (by rfl) (C_call (by rfl) (by infer_instance) (by rfl) (by rfl) (hB _ (by infer_instance) (by infer_instance))) (by rfl) ?_; rintro _ _ ⟨rfl, rfl⟩))
    | (refine s1_any ?_; refine sc_r (R_extract (by rfl) (by rfl)) (by rfl) ?_)
    | refine swl_nil ?_
    | refine sx_next ?_
    | refine sw_seq ?_
    | refine sw_region ?_
    | refine sx_past_ret ?_
    | refine sw_cond_true (by rfl) ?_
    | refine sw_ret ?_
    | fail)
    refine sx_ret_of (res1 rfl (ResOne.tmp rfl)) _ ⟨rfl, rfl⟩ (Ent.trans ?_ (med_close h2 (sv := .slice pv (vl.map Prod.fst).length cv)))
    (repeat (first | exact Ent.refl _ | exact Ent.nil | (apply Ent.pick; focus ((repeat (first | exact Rem.here | apply Rem.there)); done)) | apply Ent.drop))

def flS (s : DevS) : DevS := if spE s = 0 then flushS s else spendS s
def flME (s : DevS) (vl : List (Nat × DevS)) (v : Int) : Int := if v = -1 then spE s else if 0 ≤ v ∧ v < (vl.length : Int) then spE (vl.getD v.toNat (0, s)).2 else 4
def flMD (s : DevS) (v : Int) : DevS := if v = -1 then flS s else s
def flMV (vl : List (Nat × DevS)) (v : Int) : List (Nat × DevS) := if 0 ≤ v ∧ v < (vl.length : Int) then setV vl v.toNat flS else vl
theorem flMV_fst (vl : List (Nat × DevS)) (v : Int) : (flMV vl v).map Prod.fst = vl.map Prod.fst := by
  unfold flMV; split
  · exact setV_fst _ _ _
  · rfl
theorem medium_Flush (m d : Nat) (g : Geo) (gens : List Int) (s : DevS) (vl : List (Nat × DevS)) (v : Int) {F : List HP} :
    Tr Tryd.prog 18 [.pointer (some ⟨m, 0, none⟩), .int .i64 v].toArray (medP m d (vl.map Prod.fst) g gens :: devP d s :: devsP vl :: F)
      (fun r L' => r = .int .i64 (flME s vl v) ∧ L' = medP m d (vl.map Prod.fst) g gens :: devP d (flMD s v) :: devsP (flMV vl v) :: F) := by
  refine Tr.open_med fun pv cv h1 h2 => ?_
  refine tr_enter Tryd.func18 rfl Tryd.ntmps18 rfl fun w0 => ?_
  unfold flME flMD flMV
  by_cases hd : v = -1
  · subst hd
    simp only [if_true]
    rw [if_neg (by omega)]
    repeat' (first
    | refine swl_op ?_
    | (refine s1_move ?_; refine sc_r (R_move (by rfl)) (by rfl) ?_)
    | (refine s1_load ?_; refine sc_r (L_load' (by rfl) (by infer_instance) (by rfl)) (by rfl) ?_)
    | (refine s1_fieldAddr ?_; refine sc_r (R_fieldAddr (by rfl)) (by rfl) ?_)
    | (refine s1_assign ?_; refine sc_r (R_assign (by rfl)) (by rfl) ?_)
    | (refine s1_bin ?_; refine sc_r (R_eql (by rfl) (by rfl)) (by rfl) ?_)
    | (refine s1_call ?_; (refine sc_c (by rfl) (C_call (by rfl) (by infer_instance) (by rfl) (by rfl) (Tr.ent (Ent.pick (by focus ((repeat (first | exact Rem.here | apply Rem.there)); done)) (Ent.refl _)) (dev_Flush d s))) (by rfl) ?_; rintro _ _ ⟨rfl, rfl⟩))
    | (refine s1_any ?_; refine sc_r (R_nilCheck (by rfl)) (by rfl) ?_)
    | refine swl_nil ?_
    | refine sx_next ?_
    | refine sw_seq ?_
    | refine sw_region ?_
    | refine sx_past_ret ?_
    | refine sw_cond_true (by rfl) ?_
    | refine sw_ret ?_
    | fail)
    refine sx_ret_of (res1 rfl (ResOne.tmp rfl)) _ ⟨rfl, rfl⟩ (Ent.trans ?_ (med_close h2 (sv := .slice pv (vl.map Prod.fst).length cv)))
    (repeat (first | exact Ent.refl _ | exact Ent.nil | (apply Ent.pick; focus ((repeat (first | exact Rem.here | apply Rem.there)); done)) | apply Ent.drop))
  · rw [if_neg hd, if_neg hd]
    by_cases hv : 0 ≤ v ∧ v < (vl.length : Int)
    · have hv2 : decide (0 ≤ v ∧ v < ((vl.map Prod.fst).length : Int)) = true := by rw [List.length_map]; simpa using hv
      rw [if_pos hv, if_pos hv]
      have hi : v.toNat < vl.length := by omega
      have hll : (vl.map Prod.fst).length = vl.length := by simp
      obtain ⟨b1, o1, rfl⟩ := h1.ptr (by omega)
      have he1 : ((vl.map Prod.fst).map ptrc).getD v.toNat #[] = #[.pointer (some ⟨vl[v.toNat].1, 0, none⟩)] := by rw [ptr_get (by omega)]; simp
      have hp2 : (vl.getD v.toNat (0, s)).2 = vl[v.toNat].2 := by simp [List.getD, hi]
      rw [hp2]
      repeat' (first
    | refine swl_op ?_
    | (refine s1_move ?_; refine sc_r (R_move (by rfl)) (by rfl) ?_)
    | (refine s1_load ?_; first | refine sc_r (L_load' (by rfl) (by infer_instance) (by rfl)) (by rfl) ?_ | refine sc_r (L_load_el1 (by rfl) (by infer_instance) (by omega) (by first | assumption | rfl)) (by rfl) ?_)
    | (refine s1_fieldAddr ?_; refine sc_r (R_fieldAddr (by rfl)) (by rfl) ?_)
    | (refine s1_assign ?_; refine sc_r (R_assign (by rfl)) (by rfl) ?_)
    | (refine s1_bin ?_; refine sc_r (R_eql (by rfl) (by rfl)) (by rfl) ?_)
    | (refine s1_call ?_; first | (refine sc_c (by rfl) (C_call (by rfl) (by infer_instance) (by rfl) (by rfl) (medium_is' m v _ (by infer_instance) hv2)) (by rfl) ?_; rintro _ _ ⟨rfl, rfl⟩) | (refine sc_c (by rfl) (C_call (by rfl) (by infer_instance) (by rfl) (by rfl) (Tr.ent (Ent.trans (Ent.pick (by focus ((repeat (first | exact Rem.here | apply Rem.there)); done)) (Ent.refl _)) (devs_cut vl v.toNat hi)) (dev_Flush vl[v.toNat].1 vl[v.toNat].2))) (by rfl) ?_; rintro _ _ ⟨rfl, rfl⟩))
    | (refine s1_indexAddr ?_; refine sc_r (R_indexAddr (by rfl) (by rfl) (by omega)) (by rfl) ?_)
    | (refine s1_any ?_; first | refine sc_r (R_not (by rfl)) (by rfl) ?_ | refine sc_r (R_nilCheck (by rfl)) (by rfl) ?_)
    | refine swl_nil ?_
    | refine sx_next ?_
    | refine sw_seq ?_
    | refine sw_region ?_
    | refine sw_cond_false (by rfl) ?_
    | refine sw_cond_neg (by rfl) (by first | assumption | omega) ?_
    | refine sw_ret ?_
    | refine sw_skip ?_
    | fail)
      refine sx_ret_of (res1 rfl (ResOne.tmp rfl)) _ ⟨rfl, rfl⟩ (Ent.trans ?_ (med_close h2 (sv := .slice (some ⟨b1, o1, none⟩) (vl.map Prod.fst).length cv)))
      refine Ent.pick (by focus ((repeat (first | exact Rem.here | apply Rem.there)); done)) (Ent.pick (by focus ((repeat (first | exact Rem.here | apply Rem.there)); done)) (Ent.pick (by focus ((repeat (first | exact Rem.here | apply Rem.there)); done)) ?_))
      rw [setV_set hi]
      exact devs_put vl v.toNat hi _
    · have hv2 : decide (0 ≤ v ∧ v < ((vl.map Prod.fst).length : Int)) = false := by rw [List.length_map]; simpa using hv
      rw [if_neg hv, if_neg hv]
      repeat' (first
    | refine swl_op ?_
    | (refine s1_move ?_; refine sc_r (R_move (by rfl)) (by rfl) ?_)
    | (refine s1_assign ?_; refine sc_r (R_assign (by rfl)) (by rfl) ?_)
    | (refine s1_bin ?_; refine sc_r (R_eql (by rfl) (by rfl)) (by rfl) ?_)
    | (refine s1_call ?_; (refine sc_c (by rfl) (C_call (by rfl) (by infer_instance) (by rfl) (by rfl) (medium_is' m v _ (by infer_instance) hv2)) (by rfl) ?_; rintro _ _ ⟨rfl, rfl⟩))
    | (refine s1_any ?_; refine sc_r (R_not (by rfl)) (by rfl) ?_)
    | refine swl_nil ?_
    | refine sx_next ?_
    | refine sw_seq ?_
    | refine sw_region ?_
    | refine sx_past_ret ?_
    | refine sw_cond_true (by rfl) ?_
    | refine sw_cond_neg (by rfl) (by first | assumption | omega) ?_
    | refine sw_ret ?_
    | refine sw_skip ?_
    | fail)
      refine sx_ret_of (res1 rfl (ResOne.tmp rfl)) _ ⟨rfl, rfl⟩ (Ent.trans ?_ (med_close h2 (sv := .slice pv (vl.map Prod.fst).length cv)))
      (repeat (first | exact Ent.refl _ | exact Ent.nil | (apply Ent.pick; focus ((repeat (first | exact Rem.here | apply Rem.there)); done)) | apply Ent.drop))
end Go.Proofs.YtcpfehldofmipaaDoor
