/-
  Media: made, opened, renewed: the steps.
-/
import Derived.Test.YtcpfehldofmipaaDoorMed6
namespace Go.Proofs.YtcpfehldofmipaaDoor
open Go Go.SL Go.Proofs

def fErase (a : Nat) : Value := .func (.func 40) #[.pointer (some ⟨a, 0, none⟩)] #[]
def fFlush (a : Nat) : Value := .func (.func 42) #[.pointer (some ⟨a, 0, none⟩)] #[]
def fWrite (x y z : Nat) : Value := .func (.func 77) #[] #[.pointer (some ⟨x, 0, none⟩), .pointer (some ⟨y, 0, none⟩), .pointer (some ⟨z, 0, none⟩)]
def erS (s : DevS) : DevS := if spE s = 0 then eraseS s else spendS s
theorem fnErase (a : Nat) (s : DevS) (F : List HP) : FnOK (fErase a) a F s (erS s) (spE s) := ⟨_, _, _, rfl, inferInstance, dev_Erase a s⟩
theorem fnFlush (a : Nat) (s : DevS) (F : List HP) : FnOK (fFlush a) a F s (flS s) (spE s) := ⟨_, _, _, rfl, inferInstance, dev_Flush a s⟩
theorem fnWrite (a : Nat) (s : DevS) (i : Int) (b : List Int) (hpn : s.pend.length ≤ 1000000000) (x y z : Nat) {p : Option Addr} {n c : Nat} {T1 T2 T3 : TypeId} {F : List HP} (hx : ReadC F x (.cells #[.pointer (some ⟨a, 0, none⟩)] T1)) (hy : ReadC F y (.cells #[.int .i64 i] T2)) (hz : ReadC F z (.cells #[.slice p n c] T3)) (hb : SlC F p 1 n c (b.map u8c)) :
    FnOK (fWrite x y z) a F s (wrS s i b) (wrE s i b.length) := ⟨_, _, _, rfl, inferInstance, medium_writing1 a s i b hpn x y z hx hy hz hb⟩
/-- written and flushed; what comes of it -/
def wfS (s : DevS) (i : Int) (b : List Int) : DevS := if wrE s i b.length = 0 then flS (wrS s i b) else wrS s i b
def wfE (s : DevS) (i : Int) (b : List Int) : Int := if wrE s i b.length = 0 then spE (wrS s i b) else wrE s i b.length
def ewfS (s : DevS) (b : List Int) : DevS := if spE s = 0 then wfS (eraseS s) 0 b else spendS s
def ewfE (s : DevS) (b : List Int) : Int := if spE s = 0 then wfE (eraseS s) 0 b else spE s
theorem steps_f (a : Nat) (s : DevS) (F : List HP) : StepsOK a F [fFlush a] s (flS s) (spE s) := by
  by_cases h : spE s = 0
  · have := fnFlush a s F
    rw [h] at this ⊢
    exact .next this .nil
  · exact .stop (fnFlush a s F) h
theorem steps_e (a : Nat) (s : DevS) (F : List HP) : StepsOK a F [fErase a] s (erS s) (spE s) := by
  by_cases h : spE s = 0
  · have := fnErase a s F
    rw [h] at this ⊢
    exact .next this .nil
  · exact .stop (fnErase a s F) h
theorem steps_wf (a : Nat) (s : DevS) (i : Int) (b : List Int) (hpn : s.pend.length ≤ 1000000000) (x y z : Nat) {p : Option Addr} {n c : Nat} {T1 T2 T3 : TypeId} {F : List HP} (hx : ReadC F x (.cells #[.pointer (some ⟨a, 0, none⟩)] T1)) (hy : ReadC F y (.cells #[.int .i64 i] T2)) (hz : ReadC F z (.cells #[.slice p n c] T3)) (hb : SlC F p 1 n c (b.map u8c)) :
    StepsOK a F [fWrite x y z, fFlush a] s (wfS s i b) (wfE s i b) := by
  have hw := fnWrite a s i b hpn x y z hx hy hz hb
  unfold wfS wfE
  by_cases h : wrE s i b.length = 0
  · rw [if_pos h, if_pos h]
    rw [h] at hw
    exact .next hw (steps_f a _ F)
  · rw [if_neg h, if_neg h]
    exact .stop hw h
theorem steps_ewf (a : Nat) (s : DevS) (b : List Int) (x y z : Nat) {p : Option Addr} {n c : Nat} {T1 T2 T3 : TypeId} {F : List HP} (hx : ReadC F x (.cells #[.pointer (some ⟨a, 0, none⟩)] T1)) (hy : ReadC F y (.cells #[.int .i64 0] T2)) (hz : ReadC F z (.cells #[.slice p n c] T3)) (hb : SlC F p 1 n c (b.map u8c)) :
    StepsOK a F [fErase a, fWrite x y z, fFlush a] s (ewfS s b) (ewfE s b) := by
  have he := fnErase a s F
  unfold ewfS ewfE erS at *
  by_cases h : spE s = 0
  · rw [if_pos h, if_pos h]
    rw [if_pos h, h] at he
    exact .next he (steps_wf a _ 0 b (by simp [eraseS]) x y z hx hy hz hb)
  · rw [if_neg h, if_neg h]
    rw [if_neg h] at he
    exact .stop he h

section
variable {P : Program} {w0 : World} {nt : Nat} {L : List HP} {env : Env} {Q : Exit → Act → World → Prop} {ops : Array Oper} {rest : List Oper}
theorem swl_open_med {m d : Nat} {vs : List Nat} {g : Geo} {gens : List Int} (h : ∀ pv cv, SlOK pv vs.length cv → MedOK g vs gens →
    SWL P w0 nt (pt m (.cells (medCells g d (.slice pv vs.length cv) gens) 97) :: vec 26 1 (vs.map ptrc) (.slice pv vs.length cv) :: L) env ops rest Q) : SWL P w0 nt (medP m d vs g gens :: L) env ops rest Q := .mk fun w a hs hr => by
  obtain ⟨pv, cv, h1, h2, H⟩ := medP_open hs.own
  exact (h pv cv h1 h2).h w a ⟨hs.os, hs.tape, hs.output, hs.size, hs.drawn, H⟩ hr
end

theorem addr_May_no (g : Geo) (h : mayG g = false) {L : List HP} : Tr Tryd.prog 36 [.agg g.cells].toArray L (fun v L' => v = .bool false ∧ L = L') := addr_May' g _ h
theorem medium_fits' (t : Bool) (g : Geo) (hm : mayG g = true) (d : Nat) (s : DevS) (vl : List (Nat × DevS)) (h : fitsF g s vl = t) {pv : Option Addr} {nv cv : Nat} {F : List HP} (hv : SlC F pv 1 nv cv ((vl.map Prod.fst).map ptrc)) :
    Tr Tryd.prog 37 [.agg g.cells, .pointer (some ⟨d, 0, none⟩), .slice pv nv cv].toArray (devP d s :: devsP vl :: F) (fun v L' => v = .bool t ∧ L' = devP d s :: devsP vl :: F) := h ▸ medium_fits g hm d s vl hv

theorem medium_Format_no (g : Geo) (d : Nat) (s : DevS) (vl : List (Nat × DevS)) (h : (mayG g && fitsF g s vl) = false) {pv : Option Addr} {nv cv : Nat} {F : List HP} (hv : SlC F pv 1 nv cv ((vl.map Prod.fst).map ptrc)) :
    Tr Tryd.prog 11 [.agg g.cells, .pointer (some ⟨d, 0, none⟩), .slice pv nv cv].toArray (devP d s :: devsP vl :: F) (fun v L' => v = .tuple #[.pointer none, .int .i64 1] ∧ L' = devP d s :: devsP vl :: F) := by
  refine tr_enter Tryd.func11 rfl Tryd.ntmps11 rfl fun w0 => ?_
  cases hm : mayG g
  · repeat' (first
    | refine swl_op ?_
    | (refine s1_move ?_; refine sc_r (R_move (by rfl)) (by rfl) ?_)
    | (refine s1_load ?_; refine sc_r (L_load_all (by rfl) (by infer_instance) (by rfl)) (by rfl) ?_)
    | (refine s1_assign ?_; refine sc_r (R_assign (by rfl)) (by rfl) ?_)
    | (refine s1_pick ?_; refine sc_r (R_pick_t (by rfl) (by rfl)) (by rfl) ?_)
    | (refine s1_call ?_; (refine sc_c (by rfl) (C_call (by rfl) (by infer_instance) (by rfl) (by rfl) (addr_May' g _ hm)) (by rfl) ?_; rintro _ _ ⟨rfl, rfl⟩))
    | (refine s1_box ?_; (refine sc_w (by rfl) (W_boxA (by rfl)) (by rfl) ?_; rintro _ _ ⟨_, rfl, rfl⟩))
    | (refine s1_any ?_; refine sc_r (R_not (by rfl)) (by rfl) ?_)
    | refine swl_nil ?_
    | refine sx_next ?_
    | refine sw_seq ?_
    | refine sw_region ?_
    | refine swl_g_off (by rfl) (by rfl) (by rfl) (by rfl) ?_
    | refine sx_past_ret ?_
    | refine sw_cond_true (by rfl) ?_
    | refine sw_ret ?_
    | fail)
    exact sx_ret_of (res2 rfl (ResOne.tmp rfl) (ResOne.tmp rfl)) _ ⟨rfl, rfl⟩ (by (repeat (first | exact Ent.refl _ | exact Ent.nil | (apply Ent.pick; focus ((repeat (first | exact Rem.here | apply Rem.there)); done)) | apply Ent.drop)))
  · rw [hm, Bool.true_and] at h
    repeat' (first
    | refine swl_op ?_
    | (refine s1_move ?_; refine sc_r (R_move (by rfl)) (by rfl) ?_)
    | (refine s1_load ?_; refine sc_r (L_load_all (by rfl) (by infer_instance) (by rfl)) (by rfl) ?_)
    | (refine s1_assign ?_; refine sc_r (R_assign (by rfl)) (by rfl) ?_)
    | (refine s1_pick ?_; refine sc_r (R_pick_f (by rfl) (by rfl)) (by rfl) ?_)
    | (refine s1_call ?_; first | (refine sc_c (by rfl) (C_call (by rfl) (by infer_instance) (by rfl) (by rfl) (addr_May' g _ hm)) (by rfl) ?_; rintro _ _ ⟨rfl, rfl⟩) | (refine sc_c (by rfl) (C_call (by rfl) (by infer_instance) (by rfl) (by rfl) (Tr.ent (Ent.pick (by focus ((repeat (first | exact Rem.here | apply Rem.there)); done)) (Ent.pick (by focus ((repeat (first | exact Rem.here | apply Rem.there)); done)) (Ent.refl _))) (medium_fits' false g hm d s vl h (by infer_instance)))) (by rfl) ?_; rintro _ _ ⟨rfl, rfl⟩))
    | (refine s1_box ?_; (refine sc_w (by rfl) (W_boxA (by rfl)) (by rfl) ?_; rintro _ _ ⟨_, rfl, rfl⟩))
    | (refine s1_any ?_; refine sc_r (R_not (by rfl)) (by rfl) ?_)
    | refine swl_nil ?_
    | refine sx_next ?_
    | refine sw_seq ?_
    | refine sw_region ?_
    | refine swl_g_on (by rfl) (by rfl) ?_
    | refine sx_past_ret ?_
    | refine sw_cond_true (by rfl) ?_
    | refine sw_ret ?_
    | fail)
    exact sx_ret_of (res2 rfl (ResOne.tmp rfl) (ResOne.tmp rfl)) _ ⟨rfl, rfl⟩ (by (repeat (first | exact Ent.refl _ | exact Ent.nil | (apply Ent.pick; focus ((repeat (first | exact Rem.here | apply Rem.there)); done)) | apply Ent.drop)))
end Go.Proofs.YtcpfehldofmipaaDoor
