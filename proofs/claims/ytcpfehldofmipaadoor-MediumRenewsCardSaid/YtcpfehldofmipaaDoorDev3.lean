/-
  Devices, walked: the public functions.
-/
import Derived.Test.YtcpfehldofmipaaDoorDev2
namespace Go.Proofs.YtcpfehldofmipaaDoor
open Go Go.SL Go.Proofs

def zeros128 : List Int := List.replicate 128 0
def newDev (n : Nat) : DevS := ⟨List.replicate n zeros128, [], fun _ => 0, -1, true, true⟩
theorem newDev_OK {n : Nat} (h : n ≤ 8192) : (newDev n).OK := ⟨fun l hl => (by rw [(List.mem_replicate.1 hl).2]; simp [zeros128]), fun x hx => (by simp [newDev] at hx), (by simpa [newDev] using h), by simp [newDev]⟩
theorem newestF_nil : newestF [] = fun _ => none := by
  funext k; unfold newestF; split <;> simp [lastAt]
theorem faultF_zero : faultF (fun _ => 0) = fun _ => none := by
  funext k; unfold faultF; split <;> simp

theorem dev_New (n : Nat) (h : 1 ≤ n ∧ n ≤ 8192) {L : List HP} : Tr Tryd.prog 9 [.int .i64 n].toArray L (fun v L' => ∃ a, v = .tuple #[.pointer (some ⟨a, 0, none⟩), .int .i64 0] ∧ L' = devP a (newDev n) :: L) := by
  refine tr_enter Tryd.func9 rfl Tryd.ntmps9 rfl fun w0 => ?_
  repeat' (first
    | refine swl_op ?_
    | (refine s1_move ?_; refine sc_r (R_move (by rfl)) (by rfl) ?_)
    | (refine s1_assign ?_; refine sc_r (R_assign (by rfl)) (by rfl) ?_)
    | (refine s1_pick ?_; refine sc_r (R_pick_f (by rfl) (by rfl)) (by rfl) ?_)
    | (refine s1_bin ?_; first | refine sc_r (R_lss (by rfl) (by rfl)) (by rfl) ?_ | refine sc_r (R_gtr (by rfl) (by rfl)) (by rfl) ?_)
    | (refine s1_box ?_; (refine sc_w (by rfl) (W_boxA (by rfl)) (by rfl) ?_; rintro _ _ ⟨_, rfl, rfl⟩))
    | (refine s1_any ?_; first | refine sc_r (R_buildL (by rfl) (by rfl)) (by rfl) ?_ | (refine sc_w (by rfl) W_makeMap (by rfl) ?_; rintro _ _ ⟨_, rfl, rfl⟩) | (refine sc_w (by rfl) (W_makeSlice (n' := n) (c' := n) (zc := bcell zeros128) (by rfl) (by rfl) (by rfl) (by omega) (by omega) (by omega) (by omega)) (by rfl) ?_; rintro _ _ ⟨b0, rfl, hok0, rfl⟩))
    | refine swl_nil ?_
    | refine sx_next ?_
    | refine sw_seq ?_
    | refine sw_region ?_
    | refine swl_g_on (by rfl) (by rfl) ?_
    | refine swl_g_neg (by rfl) (by rfl) (by first | assumption | omega) ?_
    | refine sw_cond_neg (by rfl) (by first | assumption | omega) ?_
    | refine sw_ret ?_
    | refine sw_skip ?_
    | fail)
  rename_i r2 r3 a
  refine sx_ret_of (res2 rfl (ResOne.tmp rfl) (ResOne.tmp rfl)) _ ⟨_, rfl, rfl⟩ (Ent.trans ?_ (dev_close (newDev_OK h.2) (sb := .slice (some ⟨b0, 0, none⟩) n n) (sp := .slice none 0 0) (rn := r2) (rf := r3)))
  refine Ent.pick (by focus ((repeat (first | exact Rem.here | apply Rem.there)); done)) ?_
  rw [show (newDev n).blocks.map bcell = List.replicate n (bcell zeros128) by simp [newDev]]
  refine Ent.pick (by focus ((repeat (first | exact Rem.here | apply Rem.there)); done)) ?_
  refine Ent.trans ?_ Ent.vec_nil
  rw [show newestF (newDev n).pend = fun _ => none from newestF_nil, show faultF (newDev n).faults = fun _ => none from faultF_zero]
  refine Ent.trans ?_ Ent.mp_empty
  refine Ent.pick (L1 := pt r3 (.map #[] 0) :: L) (by focus ((repeat (first | exact Rem.here | apply Rem.there)); done)) ?_
  exact Ent.mp_empty
theorem dev_New_no (n : Int) (h : n < 1 ∨ 8192 < n) {L : List HP} : Tr Tryd.prog 9 [.int .i64 n].toArray L (fun v L' => v = .tuple #[.pointer none, .int .i64 1] ∧ L = L') := by
  refine tr_enter Tryd.func9 rfl Tryd.ntmps9 rfl fun w0 => ?_
  by_cases h1 : n < 1
  · repeat' (first
    | refine swl_op ?_
    | (refine s1_move ?_; refine sc_r (R_move (by rfl)) (by rfl) ?_)
    | (refine s1_assign ?_; refine sc_r (R_assign (by rfl)) (by rfl) ?_)
    | (refine s1_pick ?_; refine sc_r (R_pick_t (by rfl) (by rfl)) (by rfl) ?_)
    | (refine s1_bin ?_; refine sc_r (R_lss (by rfl) (by rfl)) (by rfl) ?_)
    | refine swl_nil ?_
    | refine sx_next ?_
    | refine sw_seq ?_
    | refine sw_region ?_
    | refine swl_g_off (by rfl) (by rfl) (by rfl) (by rfl) ?_
    | refine swl_g_pos (by rfl) (by rfl) (by first | assumption | omega) ?_
    | refine sx_past_ret ?_
    | refine sw_cond_true (by rfl) ?_
    | refine sw_ret ?_
    | fail)
    exact sx_ret_of (res2 rfl (ResOne.tmp rfl) (ResOne.tmp rfl)) _ ⟨rfl, rfl⟩ (by (repeat (first | exact Ent.refl _ | exact Ent.nil | (apply Ent.pick; focus ((repeat (first | exact Rem.here | apply Rem.there)); done)) | apply Ent.drop)))
  · repeat' (first
    | refine swl_op ?_
    | (refine s1_move ?_; refine sc_r (R_move (by rfl)) (by rfl) ?_)
    | (refine s1_assign ?_; refine sc_r (R_assign (by rfl)) (by rfl) ?_)
    | (refine s1_pick ?_; refine sc_r (R_pick_f (by rfl) (by rfl)) (by rfl) ?_)
    | (refine s1_bin ?_; first | refine sc_r (R_lss (by rfl) (by rfl)) (by rfl) ?_ | refine sc_r (R_gtr (by rfl) (by rfl)) (by rfl) ?_)
    | refine swl_nil ?_
    | refine sx_next ?_
    | refine sw_seq ?_
    | refine sw_region ?_
    | refine swl_g_on (by rfl) (by rfl) ?_
    | refine swl_g_neg (by rfl) (by rfl) (by first | assumption | omega) ?_
    | refine sx_past_ret ?_
    | refine sw_cond_pos (by rfl) (by first | assumption | omega) ?_
    | refine sw_ret ?_
    | fail)
    exact sx_ret_of (res2 rfl (ResOne.tmp rfl) (ResOne.tmp rfl)) _ ⟨rfl, rfl⟩ (by (repeat (first | exact Ent.refl _ | exact Ent.nil | (apply Ent.pick; focus ((repeat (first | exact Rem.here | apply Rem.there)); done)) | apply Ent.drop)))

theorem dev_Size (a : Nat) (s : DevS) {L : List HP} : Tr Tryd.prog 45 [.pointer (some ⟨a, 0, none⟩)].toArray (devP a s :: L) (fun v L' => v = .int .i64 s.blocks.length ∧ L' = devP a s :: L) := by
  refine Tr.open_dev fun pb cb pp cp rn rf h1 h2 h3 => ?_
  refine tr_enter Tryd.func45 rfl Tryd.ntmps45 rfl fun w0 => ?_
  repeat' (first
    | refine swl_op ?_
    | (refine s1_move ?_; refine sc_r (R_move (by rfl)) (by rfl) ?_)
    | (refine s1_load ?_; refine sc_r (L_load' (by rfl) (by infer_instance) (by rfl)) (by rfl) ?_)
    | (refine s1_fieldAddr ?_; refine sc_r (R_fieldAddr (by rfl)) (by rfl) ?_)
    | (refine s1_assign ?_; refine sc_r (R_assign (by rfl)) (by rfl) ?_)
    | (refine s1_call ?_; refine sc_r (R_len (by rfl)) (by rfl) ?_)
    | (refine s1_any ?_; refine sc_r (R_nilCheck (by rfl)) (by rfl) ?_)
    | refine swl_nil ?_
    | refine sx_next ?_
    | refine sw_seq ?_
    | refine sw_region ?_
    | refine sw_ret ?_
    | fail)
  exact sx_ret_of (res1 rfl (ResOne.tmp rfl)) _ ⟨rfl, rfl⟩ (Ent.trans (by (repeat (first | exact Ent.refl _ | exact Ent.nil | (apply Ent.pick; focus ((repeat (first | exact Rem.here | apply Rem.there)); done)) | apply Ent.drop))) (dev_close h3))

def spendS (s : DevS) : DevS := { s with budget := spendN s.budget s.power, power := spendP s.budget s.power }
def eraseS (s : DevS) : DevS := { spendS s with blocks := List.replicate s.blocks.length zeros128, pend := [] }
def flushS (s : DevS) : DevS := { spendS s with blocks := execB (fun _ => 128) s.pend s.blocks, pend := [] }
def spE (s : DevS) : Int := spendE s.budget s.power s.mounted
theorem spendN_bd {bu : Int} {po : Bool} (h : bu ≤ 9223372036854775807) : spendN bu po ≤ 9223372036854775807 := by unfold spendN; split <;> (try split) <;> omega
theorem spendS_OK {s : DevS} (h : s.OK) : (spendS s).OK := ⟨h.b128, h.p128, h.bn, spendN_bd h.bu⟩
theorem eraseS_OK {s : DevS} (h : s.OK) : (eraseS s).OK := ⟨fun l hl => (by rw [(List.mem_replicate.1 hl).2]; simp [zeros128]), fun x hx => (by simp [eraseS] at hx), (by simpa [eraseS, spendS] using h.bn), spendN_bd h.bu⟩
theorem execB_all (far : Nat → Int) {s : DevS} (h : s.OK) : ∀ l ∈ execB far s.pend s.blocks, l.length = 128 := by
  have := execB_128 far h.b128 h.p128 s.pend.length (Nat.le_refl _)
  rwa [List.take_length] at this
theorem flushS_OK {s : DevS} (h : s.OK) : (flushS s).OK := ⟨execB_all (fun _ => 128) h, fun x hx => (by simp [flushS] at hx), (by simpa [flushS, execB_len, spendS] using h.bn), spendN_bd h.bu⟩

theorem dev_Erase (a : Nat) (s : DevS) {L : List HP} : Tr Tryd.prog 40 [.pointer (some ⟨a, 0, none⟩)].toArray (devP a s :: L) (fun v L' => v = .int .i64 (spE s) ∧ L' = devP a (if spE s = 0 then eraseS s else spendS s) :: L) := by
  refine Tr.open_dev fun pb cb pp cp rn rf h1 h2 h3 => ?_
  refine tr_enter Tryd.func40 rfl Tryd.ntmps40 rfl fun w0 => ?_
  have hsp := fun (x0 x1 x2 x3 : Value) (L : List HP) => dev_spend a (x0 := x0) (x1 := x1) (x2 := x2) (x3 := x3) (po := s.power) (mo := s.mounted) (T := 89) (L := L) h3.bu
  unfold spE
  have hclr : ∀ v ∈ (bcell zeros128).toList, v.oneCell' = true := bcell_one
  by_cases h0 : spendE s.budget s.power s.mounted = 0
  · rw [h0] at hsp
    rw [if_pos h0, h0]
    repeat' (first
    | refine swl_op ?_
    | (refine s1_move ?_; refine sc_r (R_move (by rfl)) (by rfl) ?_)
    | (refine s1_load ?_; refine sc_r (L_load' (by rfl) (by infer_instance) (by rfl)) (by rfl) ?_)
    | (refine s1_fieldAddr ?_; refine sc_r (R_fieldAddr (by rfl)) (by rfl) ?_)
    | (refine s1_assign ?_; refine sc_r (R_assign (by rfl)) (by rfl) ?_)
    | (refine s1_bin ?_; refine sc_r (R_neq (by rfl) (by rfl)) (by rfl) ?_)
    | (refine s1_call ?_; first | (refine sc_c (by rfl) (C_call (by rfl) (by infer_instance) (by rfl) (by rfl) (hsp _ _ _ _ _)) (by rfl) ?_; rintro _ _ ⟨rfl, rfl⟩) | (refine sc_w (by rfl) (W_clearS (by rfl) (by focus ((repeat (first | exact Rem.here | apply Rem.there)); done)) (zc := bcell zeros128) (by rfl) hclr) (by rfl) ?_; rintro _ _ ⟨rfl, rfl⟩) | (refine sc_c (by rfl) (C_call (by rfl) (by infer_instance) (by rfl) (by rfl) (Tr.ent (Ent.pick (by focus ((repeat (first | exact Rem.here | apply Rem.there)); done)) (Ent.pick (by focus ((repeat (first | exact Rem.here | apply Rem.there)); done)) (Ent.refl _))) (dev_forget a rn))) (by rfl) ?_; rintro _ _ ⟨rfl, rfl⟩))
    | (refine s1_any ?_; refine sc_r (R_nilCheck (by rfl)) (by rfl) ?_)
    | refine swl_nil ?_
    | refine sx_next ?_
    | refine sw_seq ?_
    | refine sw_region ?_
    | refine sw_cond_false (by rfl) ?_
    | refine sw_ret ?_
    | refine sw_skip ?_
    | fail)
    refine sx_ret_of (res1 rfl (ResOne.tmp rfl)) _ ⟨rfl, rfl⟩ (Ent.trans ?_ (dev_close (eraseS_OK h3) (sb := .slice pb s.blocks.length cb) (sp := .slice none 0 0) (rn := rn) (rf := rf)))
    rw [show (eraseS s).blocks.map bcell = List.replicate s.blocks.length (bcell zeros128) by simp [eraseS], show newestF (eraseS s).pend = fun _ => none from newestF_nil]
    refine Ent.pick (by focus ((repeat (first | exact Rem.here | apply Rem.there)); done)) (Ent.pick (by focus ((repeat (first | exact Rem.here | apply Rem.there)); done)) (Ent.trans ?_ Ent.vec_nil))
    (repeat (first | exact Ent.refl _ | exact Ent.nil | (apply Ent.pick; focus ((repeat (first | exact Rem.here | apply Rem.there)); done)) | apply Ent.drop))
  · rw [if_neg h0]
    repeat' (first
    | refine swl_op ?_
    | (refine s1_move ?_; refine sc_r (R_move (by rfl)) (by rfl) ?_)
    | (refine s1_assign ?_; refine sc_r (R_assign (by rfl)) (by rfl) ?_)
    | (refine s1_bin ?_; refine sc_r (R_neq (by rfl) (by rfl)) (by rfl) ?_)
    | (refine s1_call ?_; (refine sc_c (by rfl) (C_call (by rfl) (by infer_instance) (by rfl) (by rfl) (hsp _ _ _ _ _)) (by rfl) ?_; rintro _ _ ⟨rfl, rfl⟩))
    | refine swl_nil ?_
    | refine sx_next ?_
    | refine sw_seq ?_
    | refine sw_region ?_
    | refine sx_past_ret ?_
    | refine sw_cond_nneg (by rfl) (by first | assumption | omega) ?_
    | refine sw_ret ?_
    | fail)
    exact sx_ret_of (res1 rfl (ResOne.tmp rfl)) _ ⟨rfl, rfl⟩ (Ent.trans (by (repeat (first | exact Ent.refl _ | exact Ent.nil | (apply Ent.pick; focus ((repeat (first | exact Rem.here | apply Rem.there)); done)) | apply Ent.drop))) (dev_close (spendS_OK h3)))

theorem dev_Flush1 (k : Int) {L : List HP} : Tr Tryd.prog 78 [.int .i64 k].toArray L (fun v L' => v = .int .i64 128 ∧ L = L') := by
  refine tr_enter Tryd.func78 rfl Tryd.ntmps78 rfl fun w0 => ?_
  repeat' (first
    | refine swl_op ?_
    | (refine s1_assign ?_; refine sc_r (R_assign (by rfl)) (by rfl) ?_)
    | refine swl_nil ?_
    | refine sx_next ?_
    | refine sw_seq ?_
    | refine sw_region ?_
    | refine sw_ret ?_
    | fail)
  exact sx_ret_of (res1 rfl (ResOne.tmp rfl)) _ ⟨rfl, rfl⟩ (by (repeat (first | exact Ent.refl _ | exact Ent.nil | (apply Ent.pick; focus ((repeat (first | exact Rem.here | apply Rem.there)); done)) | apply Ent.drop)))
theorem dev_Flush (a : Nat) (s : DevS) {L : List HP} : Tr Tryd.prog 42 [.pointer (some ⟨a, 0, none⟩)].toArray (devP a s :: L) (fun v L' => v = .int .i64 (spE s) ∧ L' = devP a (if spE s = 0 then flushS s else spendS s) :: L) := by
  refine Tr.open_dev fun pb cb pp cp rn rf h1 h2 h3 => ?_
  refine tr_enter Tryd.func42 rfl Tryd.ntmps42 rfl fun w0 => ?_
  have hsp := fun (x0 x1 x2 x3 : Value) (L : List HP) => dev_spend a (x0 := x0) (x1 := x1) (x2 := x2) (x3 := x3) (po := s.power) (mo := s.mounted) (T := 89) (L := L) h3.bu
  have hex := fun (L : List HP) (x3 x4 x5 x6 : Value) => dev_execute a (fid := 78) (fi := #[]) (ca := #[]) (by infer_instance) (fun _ => 128) (L := L) (fun k L' _ => dev_Flush1 k) h3.b128 h3.p128 (pb := pb) (pp := pp) (cb := cb) (cp := cp) (rn := rn) (x3 := x3) (x4 := x4) (x5 := x5) (x6 := x6) (T := 89) (d := .int .i64) (f := newestF s.pend)
  unfold spE
  by_cases h0 : spendE s.budget s.power s.mounted = 0
  · rw [h0] at hsp
    rw [if_pos h0, h0]
    repeat' (first
    | refine swl_op ?_
    | (refine s1_move ?_; refine sc_r (R_move (by rfl)) (by rfl) ?_)
    | (refine s1_assign ?_; refine sc_r (R_assign (by rfl)) (by rfl) ?_)
    | (refine s1_bin ?_; refine sc_r (R_neq (by rfl) (by rfl)) (by rfl) ?_)
    | (refine s1_call ?_; first | (refine sc_c (by rfl) (C_call (by rfl) (by infer_instance) (by rfl) (by rfl) (hsp _ _ _ _ _)) (by rfl) ?_; rintro _ _ ⟨rfl, rfl⟩) | (refine sc_c (by rfl) (C_call (by rfl) (by infer_instance) (by rfl) (by rfl) (Tr.ent (Ent.pick (by focus ((repeat (first | exact Rem.here | apply Rem.there)); done)) (Ent.pick (by focus ((repeat (first | exact Rem.here | apply Rem.there)); done)) (Ent.pick (by focus ((repeat (first | exact Rem.here | apply Rem.there)); done)) (Ent.pick (by focus ((repeat (first | exact Rem.here | apply Rem.there)); done)) (Ent.refl _))))) (hex _ _ _ _ _))) (by rfl) ?_; rintro _ _ ⟨rfl, rfl⟩))
    | refine swl_nil ?_
    | refine sx_next ?_
    | refine sw_seq ?_
    | refine sw_region ?_
    | refine sw_cond_false (by rfl) ?_
    | refine sw_ret ?_
    | refine sw_skip ?_
    | fail)
    --DBG
    refine sx_ret_of (res1 rfl (ResOne.tmp rfl)) _ ⟨rfl, rfl⟩ (Ent.trans ?_ (dev_close (flushS_OK h3) (sb := .slice pb s.blocks.length cb) (sp := .slice none 0 0) (rn := rn) (rf := rf)))
    rw [show newestF (flushS s).pend = fun _ => none from newestF_nil]
    refine Ent.pick (by focus ((repeat (first | exact Rem.here | apply Rem.there)); done)) (Ent.pick (by focus ((repeat (first | exact Rem.here | apply Rem.there)); done)) (Ent.trans ?_ Ent.vec_nil))
    (repeat (first | exact Ent.refl _ | exact Ent.nil | (apply Ent.pick; focus ((repeat (first | exact Rem.here | apply Rem.there)); done)) | apply Ent.drop))
  · rw [if_neg h0]
    repeat' (first
    | refine swl_op ?_
    | (refine s1_move ?_; refine sc_r (R_move (by rfl)) (by rfl) ?_)
    | (refine s1_assign ?_; refine sc_r (R_assign (by rfl)) (by rfl) ?_)
    | (refine s1_bin ?_; refine sc_r (R_neq (by rfl) (by rfl)) (by rfl) ?_)
    | (refine s1_call ?_; (refine sc_c (by rfl) (C_call (by rfl) (by infer_instance) (by rfl) (by rfl) (hsp _ _ _ _ _)) (by rfl) ?_; rintro _ _ ⟨rfl, rfl⟩))
    | refine swl_nil ?_
    | refine sx_next ?_
    | refine sw_seq ?_
    | refine sw_region ?_
    | refine sx_past_ret ?_
    | refine sw_cond_nneg (by rfl) (by first | assumption | omega) ?_
    | refine sw_ret ?_
    | fail)
    exact sx_ret_of (res1 rfl (ResOne.tmp rfl)) _ ⟨rfl, rfl⟩ (Ent.trans (by (repeat (first | exact Ent.refl _ | exact Ent.nil | (apply Ent.pick; focus ((repeat (first | exact Rem.here | apply Rem.there)); done)) | apply Ent.drop))) (dev_close (spendS_OK h3)))

def crashS (s : DevS) (far : List Int) : DevS := { s with blocks := execB (fun k => far.getD k 0) s.pend s.blocks, pend := [], power := false }
def onS (s : DevS) : DevS := { s with pend := [], power := true, budget := -1 }
theorem crashS_OK {s : DevS} (h : s.OK) (far : List Int) : (crashS s far).OK := ⟨execB_all (fun k => far.getD k 0) h, fun x hx => (by simp [crashS] at hx), (by simpa [crashS, execB_len] using h.bn), h.bu⟩
theorem onS_OK {s : DevS} (h : s.OK) : (onS s).OK := ⟨h.b128, fun x hx => (by simp [onS] at hx), h.bn, (by simp [onS])⟩
theorem dev_Crash1 (k : Nat) (far : List Int) (b : Nat) {p : Option Addr} {n c : Nat} {T : TypeId} {L : List HP} (hb : ReadC L b (.cells #[.slice p n c] T)) (hl : SlC L p 1 n c (far.map fun z => #[Value.int .i64 z])) :
    Tr Tryd.prog 54 [.int .i64 k, .pointer (some ⟨b, 0, none⟩)].toArray L (fun v L' => v = .int .i64 (far.getD k 0) ∧ L = L') := by
  have hlen : far.length = n := by simpa using hl.len
  refine tr_enter Tryd.func54 rfl Tryd.ntmps54 rfl fun w0 => ?_
  by_cases hk : k < n
  · obtain ⟨b1, o1, rfl⟩ := hl.ptr (by omega)
    have he : (far.map fun z => #[Value.int .i64 z]).getD k #[] = #[.int .i64 (far.getD k 0)] := by simp [List.getD, show k < far.length by omega]
    repeat' (first
    | refine swl_op ?_
    | (refine s1_move ?_; refine sc_r (R_move (by rfl)) (by rfl) ?_)
    | (refine s1_load ?_; first | refine sc_r (L_load' (by rfl) (by infer_instance) (by rfl)) (by rfl) ?_ | refine sc_r (L_load_el1 (by rfl) (by infer_instance) (by omega) (by first | assumption | rfl)) (by rfl) ?_)
    | (refine s1_assign ?_; refine sc_r (R_assign (by rfl)) (by rfl) ?_)
    | (refine s1_bin ?_; refine sc_r (R_lss (by rfl) (by rfl)) (by rfl) ?_)
    | (refine s1_call ?_; refine sc_r (R_len (by rfl)) (by rfl) ?_)
    | (refine s1_indexAddr ?_; refine sc_r (R_indexAddr (by rfl) (by rfl) (by omega)) (by rfl) ?_)
    | refine swl_nil ?_
    | refine sx_next ?_
    | refine sw_seq ?_
    | refine sw_region ?_
    | refine sx_past_ret ?_
    | refine sw_cond_pos (by rfl) (by first | assumption | omega) ?_
    | refine sw_ret ?_
    | fail)
    exact sx_ret_of (res1 rfl (ResOne.tmp rfl)) _ ⟨rfl, rfl⟩ (by (repeat (first | exact Ent.refl _ | exact Ent.nil | (apply Ent.pick; focus ((repeat (first | exact Rem.here | apply Rem.there)); done)) | apply Ent.drop)))
  · have he : far.getD k 0 = 0 := by simp [List.getD, show far.length ≤ k by omega]
    rw [he]
    repeat' (first
    | refine swl_op ?_
    | (refine s1_move ?_; refine sc_r (R_move (by rfl)) (by rfl) ?_)
    | (refine s1_load ?_; refine sc_r (L_load' (by rfl) (by infer_instance) (by rfl)) (by rfl) ?_)
    | (refine s1_assign ?_; refine sc_r (R_assign (by rfl)) (by rfl) ?_)
    | (refine s1_bin ?_; refine sc_r (R_lss (by rfl) (by rfl)) (by rfl) ?_)
    | (refine s1_call ?_; refine sc_r (R_len (by rfl)) (by rfl) ?_)
    | refine swl_nil ?_
    | refine sx_next ?_
    | refine sw_seq ?_
    | refine sw_region ?_
    | refine sw_cond_neg (by rfl) (by first | assumption | omega) ?_
    | refine sw_ret ?_
    | refine sw_skip ?_
    | fail)
    exact sx_ret_of (res1 rfl (ResOne.tmp rfl)) _ ⟨rfl, rfl⟩ (by (repeat (first | exact Ent.refl _ | exact Ent.nil | (apply Ent.pick; focus ((repeat (first | exact Rem.here | apply Rem.there)); done)) | apply Ent.drop)))
theorem dev_Crash (a : Nat) (s : DevS) (far : List Int) {p : Option Addr} {n c : Nat} {L : List HP} (hl : SlC L p 1 n c (far.map fun z => #[Value.int .i64 z])) :
    Tr Tryd.prog 19 [.pointer (some ⟨a, 0, none⟩), .slice p n c].toArray (devP a s :: L) (fun v L' => v = .tuple #[] ∧ L' = devP a (crashS s far) :: L) := by
  refine Tr.open_dev fun pb cb pp cp rn rf h1 h2 h3 => ?_
  refine tr_enter Tryd.func19 rfl Tryd.ntmps19 rfl fun w0 => ?_
  have hex := fun (b3 : Nat) (F : List HP) (hb : ReadC F b3 (.cells #[.slice p n c] 39)) (hl : SlC F p 1 n c (far.map fun z => #[Value.int .i64 z])) (x3 x4 x5 x6 : Value) => dev_execute a (fid := 54) (fi := #[]) (ca := #[.pointer (some ⟨b3, 0, none⟩)]) (by infer_instance) (fun k => far.getD k 0) (L := F) (fun k L' e => dev_Crash1 k far b3 ⟨Reads.ent e hb.h⟩ (hl.ent e)) h3.b128 h3.p128 (pb := pb) (pp := pp) (cb := cb) (cp := cp) (rn := rn) (x3 := x3) (x4 := x4) (x5 := x5) (x6 := x6) (T := 89) (d := .int .i64) (f := newestF s.pend)
  repeat' (first
    | refine swl_op ?_
    | (refine s1_move ?_; refine sc_r (R_move (by rfl)) (by rfl) ?_)
    | (refine s1_fieldAddr ?_; refine sc_r (R_fieldAddr (by rfl)) (by rfl) ?_)
    | (refine s1_call ?_; (refine sc_c (by rfl) (C_call (by rfl) (by infer_instance) (by rfl) (by rfl) (Tr.ent (Ent.pick (by focus ((repeat (first | exact Rem.here | apply Rem.there)); done)) (Ent.pick (by focus ((repeat (first | exact Rem.here | apply Rem.there)); done)) (Ent.pick (by focus ((repeat (first | exact Rem.here | apply Rem.there)); done)) (Ent.pick (by focus ((repeat (first | exact Rem.here | apply Rem.there)); done)) (Ent.refl _))))) (hex _ _ (by infer_instance) (by infer_instance) _ _ _ _))) (by rfl) ?_; rintro _ _ ⟨rfl, rfl⟩))
    | (refine s1_store ?_; (refine sc_w (by rfl) (W_storeL (by rfl) (by rfl) (by infer_instance) (by rfl) (by rfl) (by rfl)) (by rfl) ?_; rintro _ _ ⟨rfl, rfl⟩))
    | (refine s1_box ?_; (refine sc_w (by rfl) (W_box1 (by rfl) (by rfl)) (by rfl) ?_; rintro _ _ ⟨_, rfl, rfl⟩))
    | (refine s1_any ?_; first | refine sc_r (R_nilCheck (by rfl)) (by rfl) ?_ | refine sc_r (R_makeFunc (by rfl) (by rfl)) (by rfl) ?_)
    | refine swl_nil ?_
    | refine sx_next ?_
    | refine sw_seq ?_
    | refine sw_region ?_
    | fail)
  --DBG
  refine sx_end_of (res0 rfl) _ ⟨rfl, rfl⟩ (Ent.trans ?_ (dev_close (crashS_OK h3 far) (sb := .slice pb s.blocks.length cb) (sp := .slice none 0 0) (rn := rn) (rf := rf)))
  rw [show newestF (crashS s far).pend = fun _ => none from newestF_nil]
  refine Ent.pick (by focus ((repeat (first | exact Rem.here | apply Rem.there)); done)) (Ent.pick (by focus ((repeat (first | exact Rem.here | apply Rem.there)); done)) (Ent.trans ?_ Ent.vec_nil))
  (repeat (first | exact Ent.refl _ | exact Ent.nil | (apply Ent.pick; focus ((repeat (first | exact Rem.here | apply Rem.there)); done)) | apply Ent.drop))
theorem dev_On (a : Nat) (s : DevS) {L : List HP} : Tr Tryd.prog 20 [.pointer (some ⟨a, 0, none⟩)].toArray (devP a s :: L) (fun v L' => v = .tuple #[] ∧ L' = devP a (onS s) :: L) := by
  refine Tr.open_dev fun pb cb pp cp rn rf h1 h2 h3 => ?_
  refine tr_enter Tryd.func20 rfl Tryd.ntmps20 rfl fun w0 => ?_
  repeat' (first
    | refine swl_op ?_
    | (refine s1_move ?_; refine sc_r (R_move (by rfl)) (by rfl) ?_)
    | (refine s1_fieldAddr ?_; refine sc_r (R_fieldAddr (by rfl)) (by rfl) ?_)
    | (refine s1_call ?_; (refine sc_c (by rfl) (C_call (by rfl) (by infer_instance) (by rfl) (by rfl) (Tr.ent (Ent.pick (by focus ((repeat (first | exact Rem.here | apply Rem.there)); done)) (Ent.pick (by focus ((repeat (first | exact Rem.here | apply Rem.there)); done)) (Ent.refl _))) (dev_forget a rn))) (by rfl) ?_; rintro _ _ ⟨rfl, rfl⟩))
    | (refine s1_store ?_; (refine sc_w (by rfl) (W_storeL (by rfl) (by rfl) (by infer_instance) (by rfl) (by rfl) (by rfl)) (by rfl) ?_; rintro _ _ ⟨rfl, rfl⟩))
    | (refine s1_any ?_; refine sc_r (R_nilCheck (by rfl)) (by rfl) ?_)
    | refine swl_nil ?_
    | refine sx_next ?_
    | refine sw_seq ?_
    | refine sw_region ?_
    | fail)
  refine sx_end_of (res0 rfl) _ ⟨rfl, rfl⟩ (Ent.trans ?_ (dev_close (onS_OK h3) (sb := .slice pb s.blocks.length cb) (sp := .slice none 0 0) (rn := rn) (rf := rf)))
  rw [show newestF (onS s).pend = fun _ => none from newestF_nil]
  refine Ent.pick (by focus ((repeat (first | exact Rem.here | apply Rem.there)); done)) (Ent.pick (by focus ((repeat (first | exact Rem.here | apply Rem.there)); done)) (Ent.trans ?_ Ent.vec_nil))
  (repeat (first | exact Ent.refl _ | exact Ent.nil | (apply Ent.pick; focus ((repeat (first | exact Rem.here | apply Rem.there)); done)) | apply Ent.drop))
end Go.Proofs.YtcpfehldofmipaaDoor
