/-
  Steps on a device; several devices.
-/
import Derived.Test.YtcpfehldofmipaaDoorDev5
namespace Go.SL
open Go
theorem Ent.st_split {A B F : List HP} : Ent (st (A ++ B) :: F) (st A :: st B :: F) := by
  refine Ent.open_st.trans ?_
  rw [List.append_assoc]
  exact Ent.shut_st.trans (Ent.cons Ent.shut_st)
theorem Ent.st_join {A B F : List HP} : Ent (st A :: st B :: F) (st (A ++ B) :: F) := by
  refine Ent.trans ?_ Ent.shut_st
  rw [List.append_assoc]
  refine Ent.trans (Ent.cons Ent.open_st) ?_
  refine Ent.trans Ent.open_st (Ent.refl _)
end Go.SL
namespace Go.Proofs.YtcpfehldofmipaaDoor
open Go Go.SL Go.Proofs

/-- devices -/
def devsP (l : List (Nat × DevS)) : HP := st (l.map fun x => devP x.1 x.2)
theorem devs_cut (l : List (Nat × DevS)) (i : Nat) (h : i < l.length) {F : List HP} : Ent (devsP l :: F) (devP l[i].1 l[i].2 :: devsP (l.take i) :: devsP (l.drop (i + 1)) :: F) := by
  have e : l.map (fun x => devP x.1 x.2) = (l.take i).map (fun x => devP x.1 x.2) ++ (devP l[i].1 l[i].2 :: (l.drop (i + 1)).map fun x => devP x.1 x.2) := by
    have e0 : l = l.take i ++ l[i] :: l.drop (i + 1) := by rw [← List.drop_eq_getElem_cons h, List.take_append_drop]
    exact (congrArg (List.map fun x : Nat × DevS => devP x.1 x.2) e0).trans (by rw [List.map_append, List.map_cons])
  unfold devsP
  rw [e]
  refine Ent.st_split.trans ?_
  refine Ent.trans (Ent.cons (Ent.open_st.trans (Ent.cons Ent.shut_st))) ?_
  exact Ent.of_perm (List.Perm.swap _ _ _)
theorem devs_put (l : List (Nat × DevS)) (i : Nat) (h : i < l.length) (s : DevS) {F : List HP} : Ent (devP l[i].1 s :: devsP (l.take i) :: devsP (l.drop (i + 1)) :: F) (devsP (l.set i (l[i].1, s)) :: F) := by
  have e : (l.set i (l[i].1, s)).map (fun x => devP x.1 x.2) = (l.take i).map (fun x => devP x.1 x.2) ++ (devP l[i].1 s :: (l.drop (i + 1)).map fun x => devP x.1 x.2) := by
    rw [List.set_eq_take_append_cons_drop, if_pos h]; simp
  unfold devsP
  rw [e]
  refine Ent.trans ?_ Ent.st_join
  refine Ent.trans ?_ (Ent.cons (Ent.shut_st (A := devP l[i].1 s :: (l.drop (i + 1)).map fun x => devP x.1 x.2)))
  refine Ent.trans (Ent.of_perm (List.Perm.swap _ _ _)) ?_
  exact Ent.cons (Ent.cons Ent.open_st)
theorem devs_same (l : List (Nat × DevS)) (i : Nat) (h : i < l.length) {F : List HP} : Ent (devP l[i].1 l[i].2 :: devsP (l.take i) :: devsP (l.drop (i + 1)) :: F) (devsP l :: F) := by
  have := devs_put l i h l[i].2 (F := F)
  rwa [show l.set i (l[i].1, l[i].2) = l from List.set_getElem_self h] at this
theorem devs_nil {F : List HP} : Ent F (devsP [] :: F) := by
  unfold devsP
  exact Ent.shut_st (A := [])
theorem devs_snoc (l : List (Nat × DevS)) (a : Nat) (s : DevS) {F : List HP} : Ent (devP a s :: devsP l :: F) (devsP (l ++ [(a, s)]) :: F) := by
  unfold devsP
  rw [List.map_append]
  refine Ent.trans ?_ Ent.st_join
  refine Ent.trans (Ent.of_perm (List.Perm.swap _ _ _)) ?_
  exact Ent.cons (Ent.shut_st (A := [devP a s]))

/-- a step on the device a, over what else is there -/
def FnOK (f : Value) (a : Nat) (F : List HP) (s s1 : DevS) (e : Int) : Prop :=
  ∃ fid fi ca, f = .func (.func fid) fi ca ∧ CallC Tryd.prog fid ∧ Tr Tryd.prog fid (fi.toList ++ [] ++ ca.toList).toArray (devP a s :: F) (fun v L' => v = .int .i64 e ∧ L' = devP a s1 :: F)
inductive StepsOK (a : Nat) (F : List HP) : List Value → DevS → DevS → Int → Prop
  | nil {s : DevS} : StepsOK a F [] s s 0
  | stop {f : Value} {r : List Value} {s s1 : DevS} {e : Int} (h : FnOK f a F s s1 e) (he : e ≠ 0) : StepsOK a F (f :: r) s s1 e
  | next {f : Value} {r : List Value} {s s1 s2 : DevS} {e : Int} (h : FnOK f a F s s1 0) (k : StepsOK a F r s1 s2 e) : StepsOK a F (f :: r) s s2 e

theorem medium_steps (a : Nat) (fs : List Value) {F : List HP} {s s2 : DevS} {e : Int} (hs : StepsOK a F fs s s2 e) {p : Option Addr} {n c : Nat} {els : List (Array Value)} (hl : SlC F p 1 n c els) (he : els = fs.map fun f => #[f]) :
    Tr Tryd.prog 39 [.slice p n c].toArray (devP a s :: F) (fun v L' => v = .int .i64 e ∧ L' = devP a s2 :: F) := by
  subst he
  have hlen : fs.length = n := by simpa using hl.len
  have hbd := hl.bd
  refine tr_enter Tryd.func39 rfl Tryd.ntmps39 rfl fun w0 => ?_
  repeat' (first
    | refine swl_op ?_
    | (refine s1_move ?_; refine sc_r (R_move (by rfl)) (by rfl) ?_)
    | (refine s1_assign ?_; refine sc_r (R_assign (by rfl)) (by rfl) ?_)
    | (refine s1_call ?_; refine sc_r (R_len (by rfl)) (by rfl) ?_)
    | refine swl_nil ?_
    | refine sx_next ?_
    | refine sw_seq ?_
    | refine sw_region ?_
    | refine sw_block ?_
    | fail)
  refine sw_loop (γ := Nat × DevS) (fun g => n - g.1) (fun g => [(6, .slice p n c), (7, .int .i64 n), (8, .int .i64 g.1)]) (fun g => devP a g.2 :: F) (fun g => g.1 ≤ n ∧ StepsOK a F (fs.drop g.1) g.2 s2 e) (0, s) ⟨by simp, by simpa using hs⟩
    (subE.cons rfl (subE.cons rfl (subE.cons rfl subE.nil))) (by (repeat (first | exact Ent.refl _ | exact Ent.nil | (apply Ent.pick; focus ((repeat (first | exact Rem.here | apply Rem.there)); done)) | apply Ent.drop))) ?_
  rintro ⟨g, s1⟩ ⟨hg, hst⟩
  dsimp only at hg hst ⊢
  by_cases hlt : g < n
  · obtain ⟨b1, o1, rfl⟩ := hl.ptr (by omega)
    have hl1 : g < fs.length := by omega
    rw [List.drop_eq_getElem_cons hl1] at hst
    have he1 : (fs.map fun f => #[f]).getD g #[] = #[fs[g]] := by simp [hl1]
    generalize fs[g] = f at *
    cases hst with
    | stop h hne =>
      obtain ⟨fid, fi, ca, rfl, hc, ht⟩ := h
      repeat' (first
    | refine swl_op ?_
    | (refine s1_move ?_; refine sc_r (R_move (by rfl)) (by rfl) ?_)
    | (refine s1_load ?_; refine sc_r (L_load_el1 (by rfl) (by infer_instance) (by omega) (by first | assumption | rfl)) (by rfl) ?_)
    | (refine s1_assign ?_; refine sc_r (R_assign (by rfl)) (by rfl) ?_)
    | (refine s1_bin ?_; first | refine sc_r (R_lss (by rfl) (by rfl)) (by rfl) ?_ | refine sc_r (R_neq (by rfl) (by rfl)) (by rfl) ?_)
    | (refine s1_call ?_; (refine sc_c (by rfl) (C_call (by rfl) hc (by rfl) (by rfl) ht) (by rfl) ?_; rintro _ _ ⟨rfl, rfl⟩))
    | (refine s1_indexAddr ?_; refine sc_r (R_indexAddr (by rfl) (by rfl) (by omega)) (by rfl) ?_)
    | refine swl_nil ?_
    | refine sx_next ?_
    | refine sw_seq ?_
    | refine sw_region ?_
    | refine sw_block ?_
    | refine sx_past_ret ?_
    | refine sx_block_ret ?_
    | refine sw_cond_pos (by rfl) (by first | assumption | omega) ?_
    | refine sw_cond_nneg (by rfl) (by first | assumption | omega) ?_
    | refine sw_ret ?_
    | refine sw_skip ?_
    | fail)
      exact sx_ret_of (res1 rfl (ResOne.tmp rfl)) _ ⟨rfl, rfl⟩ (by (repeat (first | exact Ent.refl _ | exact Ent.nil | (apply Ent.pick; focus ((repeat (first | exact Rem.here | apply Rem.there)); done)) | apply Ent.drop)))
    | next h hr =>
      obtain ⟨fid, fi, ca, rfl, hc, ht⟩ := h
      repeat' (first
    | refine swl_op ?_
    | (refine s1_move ?_; refine sc_r (R_move (by rfl)) (by rfl) ?_)
    | (refine s1_load ?_; refine sc_r (L_load_el1 (by rfl) (by infer_instance) (by omega) (by first | assumption | rfl)) (by rfl) ?_)
    | (refine s1_assign ?_; refine sc_r (R_assign (by rfl)) (by rfl) ?_)
    | (refine s1_bin ?_; first | refine sc_r (R_lss (by rfl) (by rfl)) (by rfl) ?_ | refine sc_r (R_add64 (by rfl) (by rfl) (by omega)) (by rfl) ?_ | refine sc_r (R_neq (by rfl) (by rfl)) (by rfl) ?_)
    | (refine s1_call ?_; (refine sc_c (by rfl) (C_call (by rfl) hc (by rfl) (by rfl) ht) (by rfl) ?_; rintro _ _ ⟨rfl, rfl⟩))
    | (refine s1_indexAddr ?_; refine sc_r (R_indexAddr (by rfl) (by rfl) (by omega)) (by rfl) ?_)
    | refine swl_nil ?_
    | refine sx_next ?_
    | refine sw_seq ?_
    | refine sw_region ?_
    | refine sw_block ?_
    | refine sx_block_normal ?_
    | refine sw_cond_false (by rfl) ?_
    | refine sw_cond_pos (by rfl) (by first | assumption | omega) ?_
    | refine sw_skip ?_
    | fail)
      exact sx_back (g + 1, _) (by simp only; omega) ⟨by simp only; omega, hr⟩ (subE.cons rfl (subE.cons rfl (subE.cons rfl subE.nil))) (by (repeat (first | exact Ent.refl _ | exact Ent.nil | (apply Ent.pick; focus ((repeat (first | exact Rem.here | apply Rem.there)); done)) | apply Ent.drop)))
  · rw [List.drop_of_length_le (by omega)] at hst
    cases hst
    repeat' (first
    | refine swl_op ?_
    | (refine s1_assign ?_; refine sc_r (R_assign (by rfl)) (by rfl) ?_)
    | (refine s1_bin ?_; refine sc_r (R_lss (by rfl) (by rfl)) (by rfl) ?_)
    | refine swl_nil ?_
    | refine sx_next ?_
    | refine sw_seq ?_
    | refine sw_region ?_
    | refine sx_past_exit ?_
    | refine sx_block_here ?_
    | refine sw_cond_neg (by rfl) (by first | assumption | omega) ?_
    | refine sw_ret ?_
    | refine sw_exit ?_
    | fail)
    exact sx_ret_of (res1 rfl (ResOne.tmp rfl)) _ ⟨rfl, rfl⟩ (by (repeat (first | exact Ent.refl _ | exact Ent.nil | (apply Ent.pick; focus ((repeat (first | exact Rem.here | apply Rem.there)); done)) | apply Ent.drop)))

theorem medium_writing (d i b : Value) (h1 : d.oneCell' = true) (h2 : i.oneCell' = true) (h3 : b.oneCell' = true) {L : List HP} : Tr Tryd.prog 41 [d, i, b].toArray L
    (fun v L' => ∃ x y z, v = .func (.func 77) #[] #[.pointer (some ⟨x, 0, none⟩), .pointer (some ⟨y, 0, none⟩), .pointer (some ⟨z, 0, none⟩)] ∧ L' = pt z (.cells #[b] 48) :: pt y (.cells #[i] 3) :: pt x (.cells #[d] 26) :: L) := by
  refine tr_enter Tryd.func41 rfl Tryd.ntmps41 rfl fun w0 => ?_
  repeat' (first
    | (refine s1_box ?_; refine sc_w (by rfl) (W_box1 (by rfl) h1) (by rfl) ?_; rintro _ _ ⟨_, rfl, rfl⟩)
    | (refine s1_box ?_; refine sc_w (by rfl) (W_box1 (by rfl) h2) (by rfl) ?_; rintro _ _ ⟨_, rfl, rfl⟩)
    | (refine s1_box ?_; refine sc_w (by rfl) (W_box1 (by rfl) h3) (by rfl) ?_; rintro _ _ ⟨_, rfl, rfl⟩)
    | refine swl_op ?_
    | (refine s1_assign ?_; refine sc_r (R_assign (by rfl)) (by rfl) ?_)
    | (refine s1_any ?_; refine sc_r (R_makeFunc (by rfl) (by rfl)) (by rfl) ?_)
    | refine swl_nil ?_
    | refine sx_next ?_
    | refine sw_seq ?_
    | refine sw_region ?_
    | refine sw_ret ?_
    | fail)
  exact sx_ret_of (res1 rfl (ResOne.tmp rfl)) _ ⟨_, _, _, rfl, rfl⟩ (by (repeat (first | exact Ent.refl _ | exact Ent.nil | (apply Ent.pick; focus ((repeat (first | exact Rem.here | apply Rem.there)); done)) | apply Ent.drop)))
theorem medium_writing1 (a : Nat) (s : DevS) (i : Int) (b : List Int) (hpn : s.pend.length ≤ 1000000000) (x y z : Nat) {p : Option Addr} {n c : Nat} {T1 T2 T3 : TypeId} {F : List HP} (hx : ReadC F x (.cells #[.pointer (some ⟨a, 0, none⟩)] T1)) (hy : ReadC F y (.cells #[.int .i64 i] T2)) (hz : ReadC F z (.cells #[.slice p n c] T3)) (hb : SlC F p 1 n c (b.map u8c)) :
    Tr Tryd.prog 77 [.pointer (some ⟨x, 0, none⟩), .pointer (some ⟨y, 0, none⟩), .pointer (some ⟨z, 0, none⟩)].toArray (devP a s :: F) (fun v L' => v = .int .i64 (wrE s i b.length) ∧ L' = devP a (wrS s i b) :: F) := by
  refine tr_enter Tryd.func77 rfl Tryd.ntmps77 rfl fun w0 => ?_
  repeat' (first
    | refine swl_op ?_
    | (refine s1_load ?_; refine sc_r (L_load' (by rfl) (by infer_instance) (by rfl)) (by rfl) ?_)
    | (refine s1_assign ?_; refine sc_r (R_assign (by rfl)) (by rfl) ?_)
    | (refine s1_call ?_; (refine sc_c (by rfl) (C_call (by rfl) (by infer_instance) (by rfl) (by rfl) (dev_Write a s i b hpn hb)) (by rfl) ?_; rintro _ _ ⟨rfl, rfl⟩))
    | refine swl_nil ?_
    | refine sx_next ?_
    | refine sw_seq ?_
    | refine sw_region ?_
    | refine sw_ret ?_
    | fail)
  exact sx_ret_of (res1 rfl (ResOne.tmp rfl)) _ ⟨rfl, rfl⟩ (by (repeat (first | exact Ent.refl _ | exact Ent.nil | (apply Ent.pick; focus ((repeat (first | exact Rem.here | apply Rem.there)); done)) | apply Ent.drop)))
end Go.Proofs.YtcpfehldofmipaaDoor
