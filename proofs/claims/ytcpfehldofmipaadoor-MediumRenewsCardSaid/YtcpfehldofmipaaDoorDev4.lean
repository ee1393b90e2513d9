/-
  Devices, walked: Read and Write.
-/
import Derived.Test.YtcpfehldofmipaaDoorDev3
namespace Go.Proofs.YtcpfehldofmipaaDoor
open Go Go.SL Go.Proofs

section
variable {P : Program} {w0 : World} {nt : Nat} {L : List HP} {env : Env} {ty : TypeId}
theorem R_fault {t kt et : TypeId} {x i : Operand} {r : Nat} {z : Int} {f : Int → Int} [hm : Und P t (.map kt et)] [hd : Und P kt (.int .i64)] [hz : ZeroC P et (.int .i64 0)] (hx : evO env x = some (.map (some r))) (hi : evO env i = some (.int .i64 z))
    (hc : MpC L r (.int .i64) (faultF f)) : OpR P w0 nt L env (.lookup t x i false) ty (.int .i64 (f z)) := by
  by_cases h0 : f z = 0
  · rw [h0]
    exact R_lookup1_no hx hi hc rfl (by rfl) (by simp [faultF, h0])
  · exact R_lookup1_yes hx hi hc rfl (by rfl) (by simp [faultF, h0])
end

def thereB (s : DevS) (i : Int) : Bool := decide (0 ≤ i ∧ i < (s.blocks.length : Int))
def curB (s : DevS) (i : Int) : List Int := match lastAt s.pend i with | some k => (s.pend.getD k (0, [])).2 | none => s.blocks.getD i.toNat []
def rdE (s : DevS) (i : Int) : Int := if !thereB s i then 4 else if !s.power then 10 else if !s.mounted || decide (bAnd .i64 (s.faults i) 1 ≠ 0) then 9 else 0
def rdB (s : DevS) (i : Int) : List Int := if rdE s i = 0 then curB s i else []
theorem curB_len {s : DevS} (h : s.OK) {i : Int} (hi : thereB s i = true) : (curB s i).length = 128 := by
  simp only [thereB, decide_eq_true_eq] at hi
  unfold curB
  split
  · rename_i k hk
    obtain ⟨x, hx, _⟩ := lastAt_some hk
    simp only [List.getD, hx, Option.getD_some]
    exact (h.p128 x (List.mem_of_getElem? hx)).1
  · have h1 : i.toNat < s.blocks.length := by omega
    simp only [List.getD, List.getElem?_eq_getElem h1, Option.getD_some]
    exact h.b128 _ (List.getElem_mem h1)

set_option maxHeartbeats 4000000 in
theorem dev_Read (a : Nat) (s : DevS) (i : Int) {L : List HP} : Tr Tryd.prog 46 [.pointer (some ⟨a, 0, none⟩), .int .i64 i].toArray (devP a s :: L)
    (fun v L' => ∃ sl, v = .tuple #[sl, .int .i64 (rdE s i)] ∧ L' = vec 141 1 ((rdB s i).map u8c) sl :: devP a s :: L) := by
  refine Tr.open_dev fun pb cb pp cp rn rf h1 h2 h3 => ?_
  refine tr_enter Tryd.func46 rfl Tryd.ntmps46 rfl fun w0 => ?_
  have hcl := fun hi => curB_len h3 (i := i) hi
  unfold rdB
  cases hth : thereB s i
  · have hE : rdE s i = 4 := by simp [rdE, hth]
    rw [hE, if_neg (by decide)]
    repeat' (first
    | refine swl_op ?_
    | (refine s1_move ?_; refine sc_r (R_move (by rfl)) (by rfl) ?_)
    | (refine s1_assign ?_; refine sc_r (R_assign (by rfl)) (by rfl) ?_)
    | (refine s1_call ?_; (refine sc_c (by rfl) (C_call (by rfl) (by infer_instance) (by rfl) (by rfl) (dev_there' a i _ (by infer_instance) hth)) (by rfl) ?_; rintro _ _ ⟨rfl, rfl⟩))
    | (refine s1_any ?_; refine sc_r (R_not (by rfl)) (by rfl) ?_)
    | refine swl_nil ?_
    | refine sx_next ?_
    | refine sw_seq ?_
    | refine sw_region ?_
    | refine sw_block ?_
    | refine sx_past_ret ?_
    | refine sx_block_ret ?_
    | refine sw_cond_true (by rfl) ?_
    | refine sw_ret ?_
    | fail)
    exact sx_ret_of (res2 rfl (ResOne.tmp rfl) (ResOne.tmp rfl)) _ ⟨_, rfl, rfl⟩ (Ent.trans (Ent.trans (by (repeat (first | exact Ent.refl _ | exact Ent.nil | (apply Ent.pick; focus ((repeat (first | exact Rem.here | apply Rem.there)); done)) | apply Ent.drop))) (dev_close h3)) Ent.vec_nil)
  · replace hcl := hcl hth
    have hth' := hth
    simp only [thereB, decide_eq_true_eq] at hth'
    unfold curB at hcl ⊢
    unfold rdE
    rw [hth]
    obtain ⟨bs, p, fl, bu, po, mo⟩ := s
    dsimp only [thereB] at *
    cases po
    · repeat' (first
    | refine swl_op ?_
    | (refine s1_move ?_; refine sc_r (R_move (by rfl)) (by rfl) ?_)
    | (refine s1_load ?_; refine sc_r (L_load' (by rfl) (by infer_instance) (by rfl)) (by rfl) ?_)
    | (refine s1_fieldAddr ?_; refine sc_r (R_fieldAddr (by rfl)) (by rfl) ?_)
    | (refine s1_assign ?_; refine sc_r (R_assign (by rfl)) (by rfl) ?_)
    | (refine s1_call ?_; (refine sc_c (by rfl) (C_call (by rfl) (by infer_instance) (by rfl) (by rfl) (dev_there' a i _ (by infer_instance) hth)) (by rfl) ?_; rintro _ _ ⟨rfl, rfl⟩))
    | (refine s1_any ?_; first | refine sc_r (R_not (by rfl)) (by rfl) ?_ | refine sc_r (R_nilCheck (by rfl)) (by rfl) ?_)
    | refine swl_nil ?_
    | refine sx_next ?_
    | refine sw_seq ?_
    | refine sw_region ?_
    | refine sw_block ?_
    | refine sx_past_ret ?_
    | refine sx_block_ret ?_
    | refine sw_cond_true (by rfl) ?_
    | refine sw_cond_false (by rfl) ?_
    | refine sw_ret ?_
    | fail)
      exact sx_ret_of (res2 rfl (ResOne.tmp rfl) (ResOne.tmp rfl)) _ ⟨_, rfl, rfl⟩ (Ent.trans (Ent.trans (by (repeat (first | exact Ent.refl _ | exact Ent.nil | (apply Ent.pick; focus ((repeat (first | exact Rem.here | apply Rem.there)); done)) | apply Ent.drop))) (dev_close h3)) Ent.vec_nil)
    · by_cases h9 : mo = false ∨ bAnd .i64 (fl i) 1 ≠ 0
      · have hE : (if (!true) = true then (4 : Int) else if (!true) = true then 10 else if (!mo || decide (bAnd .i64 (fl i) 1 ≠ 0)) = true then 9 else 0) = 9 := by
          rcases h9 with rfl | h9
          · rfl
          · simp [h9]
        rw [hE, if_neg (by decide)]
        rcases mo with _ | _
        · repeat' (first
    | refine swl_op ?_
    | (refine s1_move ?_; refine sc_r (R_move (by rfl)) (by rfl) ?_)
    | (refine s1_load ?_; refine sc_r (L_load' (by rfl) (by infer_instance) (by rfl)) (by rfl) ?_)
    | (refine s1_fieldAddr ?_; refine sc_r (R_fieldAddr (by rfl)) (by rfl) ?_)
    | (refine s1_assign ?_; refine sc_r (R_assign (by rfl)) (by rfl) ?_)
    | (refine s1_pick ?_; refine sc_r (R_pick_t (by rfl) (by rfl)) (by rfl) ?_)
    | (refine s1_call ?_; (refine sc_c (by rfl) (C_call (by rfl) (by infer_instance) (by rfl) (by rfl) (dev_there' a i _ (by infer_instance) hth)) (by rfl) ?_; rintro _ _ ⟨rfl, rfl⟩))
    | (refine s1_any ?_; first | refine sc_r (R_not (by rfl)) (by rfl) ?_ | refine sc_r (R_nilCheck (by rfl)) (by rfl) ?_)
    | refine swl_nil ?_
    | refine sx_next ?_
    | refine sw_seq ?_
    | refine sw_region ?_
    | refine sw_block ?_
    | refine swl_g_off (by rfl) (by rfl) (by rfl) (by rfl) ?_
    | refine sx_past_ret ?_
    | refine sx_block_ret ?_
    | refine sw_cond_true (by rfl) ?_
    | refine sw_cond_false (by rfl) ?_
    | refine sw_ret ?_
    | fail)
          exact sx_ret_of (res2 rfl (ResOne.tmp rfl) (ResOne.tmp rfl)) _ ⟨_, rfl, rfl⟩ (Ent.trans (Ent.trans (by (repeat (first | exact Ent.refl _ | exact Ent.nil | (apply Ent.pick; focus ((repeat (first | exact Rem.here | apply Rem.there)); done)) | apply Ent.drop))) (dev_close h3)) Ent.vec_nil)
        · replace h9 : bAnd .i64 (fl i) 1 ≠ 0 := by simpa using h9
          repeat' (first
    | refine swl_op ?_
    | (refine s1_move ?_; refine sc_r (R_move (by rfl)) (by rfl) ?_)
    | (refine s1_load ?_; refine sc_r (L_load' (by rfl) (by infer_instance) (by rfl)) (by rfl) ?_)
    | (refine s1_fieldAddr ?_; refine sc_r (R_fieldAddr (by rfl)) (by rfl) ?_)
    | (refine s1_assign ?_; refine sc_r (R_assign (by rfl)) (by rfl) ?_)
    | (refine s1_pick ?_; refine sc_r (R_pick_f (by rfl) (by rfl)) (by rfl) ?_)
    | (refine s1_bin ?_; first | refine sc_r (R_neq (by rfl) (by rfl)) (by rfl) ?_ | refine sc_r (R_and (by rfl) (by rfl)) (by rfl) ?_)
    | (refine s1_call ?_; (refine sc_c (by rfl) (C_call (by rfl) (by infer_instance) (by rfl) (by rfl) (dev_there' a i _ (by infer_instance) hth)) (by rfl) ?_; rintro _ _ ⟨rfl, rfl⟩))
    | (refine s1_any ?_; first | refine sc_r (R_not (by rfl)) (by rfl) ?_ | refine sc_r (R_nilCheck (by rfl)) (by rfl) ?_ | refine sc_r (R_fault (by rfl) (by rfl) (by infer_instance)) (by rfl) ?_)
    | refine swl_nil ?_
    | refine sx_next ?_
    | refine sw_seq ?_
    | refine sw_region ?_
    | refine sw_block ?_
    | refine swl_g_on (by rfl) (by rfl) ?_
    | refine sx_past_ret ?_
    | refine sx_block_ret ?_
    | refine sw_cond_false (by rfl) ?_
    | refine sw_cond_nneg (by rfl) (by first | assumption | omega) ?_
    | refine sw_ret ?_
    | fail)
          exact sx_ret_of (res2 rfl (ResOne.tmp rfl) (ResOne.tmp rfl)) _ ⟨_, rfl, rfl⟩ (Ent.trans (Ent.trans (by (repeat (first | exact Ent.refl _ | exact Ent.nil | (apply Ent.pick; focus ((repeat (first | exact Rem.here | apply Rem.there)); done)) | apply Ent.drop))) (dev_close h3)) Ent.vec_nil)
      · obtain ⟨hmo, h9⟩ := not_or.1 h9
        replace hmo : mo = true := by simpa using hmo
        subst hmo
        replace h9 : bAnd .i64 (fl i) 1 = 0 := by simpa using h9
        have hE : (if (!true) = true then (4 : Int) else if (!true) = true then 10 else if (!true || decide (bAnd .i64 (fl i) 1 ≠ 0)) = true then 9 else 0) = 0 := by simp [h9]
        rw [hE, if_pos rfl]
        have hl1 : i.toNat < bs.length := by omega
        have he1 : (bs.map bcell).getD i.toNat #[] = bcell (bs.getD i.toNat []) := by simp [List.getD, hl1]
        have h128 : (bs.getD i.toNat []).length = 128 := by
          simp only [List.getD, List.getElem?_eq_getElem hl1, Option.getD_some]
          exact h3.b128 _ (List.getElem_mem hl1)
        have hn0 : (bcell (bs.getD i.toNat [])).size = 128 := by rw [bcell_size]; exact h128
        obtain ⟨b1, o1, rfl⟩ := h1.ptr (by omega)
        rcases hla : lastAt p i with _ | k
        · have hnw : newestF p (.int .i64 i) = none := by simp [newestF, hla]
          rw [hla] at hcl
          repeat' (first
    | (refine s1_slice ?_; refine sc_r (R_sliceArr (by rfl)) (by rfl) ?_)
    | refine swl_op ?_
    | (refine s1_move ?_; refine sc_r (R_move (by rfl)) (by rfl) ?_)
    | (refine s1_load ?_; first | refine sc_r (L_load' (by rfl) (by infer_instance) (by rfl)) (by rfl) ?_ | refine sc_r (L_load_el (by rfl) (by infer_instance) (by infer_instance) (by omega) (by first | assumption | rfl)) (by rfl) ?_)
    | (refine s1_fieldAddr ?_; refine sc_r (R_fieldAddr (by rfl)) (by rfl) ?_)
    | (refine s1_assign ?_; refine sc_r (R_assign (by rfl)) (by rfl) ?_)
    | (refine s1_pick ?_; refine sc_r (R_pick_f (by rfl) (by rfl)) (by rfl) ?_)
    | (refine s1_bin ?_; first | refine sc_r (R_neq (by rfl) (by rfl)) (by rfl) ?_ | refine sc_r (R_and (by rfl) (by rfl)) (by rfl) ?_)
    | (refine s1_call ?_; (refine sc_c (by rfl) (C_call (by rfl) (by infer_instance) (by rfl) (by rfl) (dev_there' a i _ (by infer_instance) hth)) (by rfl) ?_; rintro _ _ ⟨rfl, rfl⟩))
    | (refine s1_indexAddr ?_; refine sc_r (R_indexAddr (by rfl) (by rfl) (by omega)) (by rfl) ?_)
    | (refine s1_store ?_; (refine sc_w (by rfl) (W_storeAllS (by rfl) (by rfl) (by infer_instance) hn0 (by rfl) bcell_one) (by rfl) ?_; rintro _ _ ⟨rfl, rfl⟩))
    | (refine s1_alloc ?_; (refine sc_w (by rfl) W_allocA (by rfl) ?_; rintro _ _ ⟨_, rfl, rfl⟩))
    | (refine s1_any ?_; first | refine sc_r (R_not (by rfl)) (by rfl) ?_ | refine sc_r (R_extract (by rfl) (by rfl)) (by rfl) ?_ | refine sc_r (R_nilCheck (by rfl)) (by rfl) ?_ | refine sc_r (R_lookup_no (by rfl) (by rfl) (by infer_instance) (by rfl) (by rfl) hnw) (by rfl) ?_ | refine sc_r (R_fault (by rfl) (by rfl) (by infer_instance)) (by rfl) ?_)
    | refine swl_nil ?_
    | refine sx_next ?_
    | refine sw_seq ?_
    | refine sw_region ?_
    | refine sw_block ?_
    | refine swl_g_on (by rfl) (by rfl) ?_
    | refine sx_block_normal ?_
    | refine sw_cond_false (by rfl) ?_
    | refine sw_cond_npos (by rfl) (by first | assumption | omega) ?_
    | refine sw_ret ?_
    | refine sw_skip ?_
    | fail)
          dsimp only
          refine sx_ret_of (res2 rfl (ResOne.tmp rfl) (ResOne.tmp rfl)) _ ⟨_, rfl, rfl⟩ (Ent.trans ?_ (Ent.trans (Ent.cons (dev_close h3 (sb := .slice (some ⟨b1, o1, none⟩) bs.length cb) (sp := .slice pp p.length cp) (rn := rn) (rf := rf))) (Ent.vec_block h128 (by omega))))
          (repeat (first | exact Ent.refl _ | exact Ent.nil | (apply Ent.pick; focus ((repeat (first | exact Rem.here | apply Rem.there)); done)) | apply Ent.drop))
        · have hnw : newestF p (.int .i64 i) = some (.int .i64 (k : Int)) := by simp [newestF, hla]
          rw [hla] at hcl
          obtain ⟨x, hx, _⟩ := lastAt_some hla
          have hk : k < p.length := (List.getElem?_eq_some_iff.1 hx).1
          have hx2 := h3.p128 x (List.mem_of_getElem? hx)
          have he2 : (p.map wcell).getD k #[] = wcell x := by simp [List.getD, hx]
          have hwl : ((wcell x).toList.drop 1).take 128 = x.2.map (Value.int .u8) := by
            simp only [wcell, List.toList_toArray, List.drop_succ_cons, List.drop_zero]
            exact List.take_of_length_le (by rw [List.length_map]; omega)
          have hgx : (p.getD k (0, [])).2 = x.2 := by simp [List.getD, hx]
          have hn2 : (bcell x.2).size = 128 := by rw [bcell_size]; exact hx2.1
          obtain ⟨b2, o2, rfl⟩ := h2.ptr (by omega)
          dsimp only
          rw [hgx]
          repeat' (first
    | (refine s1_load ?_; refine sc_r (L_load_elpart (f := 1) (m := 128) (by rfl) (by infer_instance) (by omega) he2 hwl (by omega)) (by rfl) ?_)
    | (refine s1_slice ?_; refine sc_r (R_sliceArr (by rfl)) (by rfl) ?_)
    | refine swl_op ?_
    | (refine s1_move ?_; refine sc_r (R_move (by rfl)) (by rfl) ?_)
    | (refine s1_load ?_; first | refine sc_r (L_load' (by rfl) (by infer_instance) (by rfl)) (by rfl) ?_ | refine sc_r (L_load_el (by rfl) (by infer_instance) (by infer_instance) (by omega) (by first | assumption | rfl)) (by rfl) ?_)
    | (refine s1_fieldAddr ?_; refine sc_r (R_fieldAddr (by rfl)) (by rfl) ?_)
    | (refine s1_assign ?_; refine sc_r (R_assign (by rfl)) (by rfl) ?_)
    | (refine s1_pick ?_; refine sc_r (R_pick_f (by rfl) (by rfl)) (by rfl) ?_)
    | (refine s1_bin ?_; first | refine sc_r (R_neq (by rfl) (by rfl)) (by rfl) ?_ | refine sc_r (R_and (by rfl) (by rfl)) (by rfl) ?_)
    | (refine s1_call ?_; (refine sc_c (by rfl) (C_call (by rfl) (by infer_instance) (by rfl) (by rfl) (dev_there' a i _ (by infer_instance) hth)) (by rfl) ?_; rintro _ _ ⟨rfl, rfl⟩))
    | (refine s1_indexAddr ?_; refine sc_r (R_indexAddr (by rfl) (by rfl) (by omega)) (by rfl) ?_)
    | (refine s1_store ?_; first | (refine sc_w (by rfl) (W_storeAllS (by rfl) (by rfl) (by infer_instance) hn0 (by rfl) bcell_one) (by rfl) ?_; rintro _ _ ⟨rfl, rfl⟩) | (refine sc_w (by rfl) (W_storeAllS (vs := bcell x.2) (by rfl) (by rfl) (by infer_instance) hn2 hn0 bcell_one) (by rfl) ?_; rintro _ _ ⟨rfl, rfl⟩))
    | (refine s1_alloc ?_; (refine sc_w (by rfl) W_allocA (by rfl) ?_; rintro _ _ ⟨_, rfl, rfl⟩))
    | (refine s1_any ?_; first | refine sc_r (R_not (by rfl)) (by rfl) ?_ | refine sc_r (R_extract (by rfl) (by rfl)) (by rfl) ?_ | refine sc_r (R_nilCheck (by rfl)) (by rfl) ?_ | refine sc_r (R_lookup_yes (by rfl) (by rfl) (by infer_instance) (by rfl) (by rfl) hnw) (by rfl) ?_ | refine sc_r (R_fault (by rfl) (by rfl) (by infer_instance)) (by rfl) ?_)
    | refine swl_nil ?_
    | refine sx_next ?_
    | refine sw_seq ?_
    | refine sw_region ?_
    | refine sw_block ?_
    | refine swl_g_on (by rfl) (by rfl) ?_
    | refine sx_block_normal ?_
    | refine sw_cond_true (by rfl) ?_
    | refine sw_cond_false (by rfl) ?_
    | refine sw_cond_npos (by rfl) (by first | assumption | omega) ?_
    | refine sw_ret ?_
    | refine sw_skip ?_
    | fail)
          refine sx_ret_of (res2 rfl (ResOne.tmp rfl) (ResOne.tmp rfl)) _ ⟨_, rfl, rfl⟩ (Ent.trans ?_ (Ent.trans (Ent.cons (dev_close h3 (sb := .slice (some ⟨b1, o1, none⟩) bs.length cb) (sp := .slice (some ⟨b2, o2, none⟩) p.length cp) (rn := rn) (rf := rf))) (Ent.vec_block hx2.1 (by omega))))
          (repeat (first | exact Ent.refl _ | exact Ent.nil | (apply Ent.pick; focus ((repeat (first | exact Rem.here | apply Rem.there)); done)) | apply Ent.drop))
end Go.Proofs.YtcpfehldofmipaaDoor
