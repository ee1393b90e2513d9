/-
  Devices: what they are, and how one stands in memory.
-/
import Derived.Test.YtcpfehldofmipaaDoorBase17
import Derived.Test.YtcpfehldofmipaaDoorFacts
namespace Go.Proofs.YtcpfehldofmipaaDoor
open Go Go.SL Go.Proofs

structure DevS where
  blocks : List (List Int)
  pend : List (Nat × List Int)
  faults : Int → Int
  budget : Int
  power : Bool
  mounted : Bool

structure DevS.OK (s : DevS) : Prop where
  b128 : ∀ l ∈ s.blocks, l.length = 128
  p128 : ∀ x ∈ s.pend, x.2.length = 128 ∧ x.1 < s.blocks.length
  bn : s.blocks.length ≤ 8192
  bu : s.budget ≤ 9223372036854775807

def wcell (x : Nat × List Int) : Array Value := (Value.int .i64 x.1 :: x.2.map (Value.int .u8)).toArray
theorem wcell_size (x : Nat × List Int) : (wcell x).size = x.2.length + 1 := by simp [wcell]

/-- the last one that waits for a block -/
def lastAt (p : List (Nat × List Int)) (z : Int) : Option Nat := (p.foldl (fun (acc : Nat × Option Nat) x => (acc.1 + 1, if (x.1 : Int) = z then some acc.1 else acc.2)) (0, none)).2
theorem lastAt_fst (p : List (Nat × List Int)) (z : Int) (acc : Nat × Option Nat) : (p.foldl (fun (acc : Nat × Option Nat) x => (acc.1 + 1, if (x.1 : Int) = z then some acc.1 else acc.2)) acc).1 = acc.1 + p.length := by
  induction p generalizing acc with
  | nil => rfl
  | cons x r ih => simp only [List.foldl_cons, ih, List.length_cons]; omega
theorem lastAt_snoc (p : List (Nat × List Int)) (x : Nat × List Int) (z : Int) : lastAt (p ++ [x]) z = if (x.1 : Int) = z then some p.length else lastAt p z := by
  unfold lastAt
  rw [List.foldl_append]
  simp only [List.foldl_cons, List.foldl_nil, lastAt_fst, Nat.zero_add]
theorem lastAt_some {p : List (Nat × List Int)} {z : Int} {k : Nat} (h : lastAt p z = some k) : ∃ x, p[k]? = some x ∧ (x.1 : Int) = z := by
  suffices H : ∀ q : List (Nat × List Int), ∀ k, lastAt q.reverse z = some k → ∃ x, q.reverse[k]? = some x ∧ (x.1 : Int) = z by
    have := H p.reverse k
    rw [List.reverse_reverse] at this
    exact this h
  intro q
  induction q with
  | nil => intro k h; simp [lastAt] at h
  | cons x r ih =>
    intro k h
    rw [List.reverse_cons] at h ⊢
    rw [lastAt_snoc] at h
    split at h
    · obtain rfl := Option.some.inj h
      exact ⟨x, by simp, ‹_›⟩
    · obtain ⟨y, hy, h2⟩ := ih k h
      have hk : k < r.reverse.length := (List.getElem?_eq_some_iff.1 hy).1
      exact ⟨y, by rw [List.getElem?_append_left hk]; exact hy, h2⟩

def newestF (p : List (Nat × List Int)) : Value → Option Value := fun k => match k with | .int .i64 z => (lastAt p z).map fun j : Nat => .int .i64 j | _ => none
def faultF (f : Int → Int) : Value → Option Value := fun k => match k with | .int .i64 z => if f z = 0 then none else some (.int .i64 (f z)) | _ => none

/-- a device at a -/
def devP (a : Nat) (s : DevS) : HP := ex fun z : Value × Value × Nat × Nat => st [pt a (.cells #[z.1, z.2.1, .map (some z.2.2.1), .map (some z.2.2.2), .int .i64 s.budget, .bool s.power, .bool s.mounted] 89),
  vec 141 128 (s.blocks.map bcell) z.1, vec 144 129 (s.pend.map wcell) z.2.1, mp (.int .i64) z.2.2.1 (newestF s.pend), mp (.int .i64) z.2.2.2 (faultF s.faults), fact s.OK]
attribute [irreducible] devP

theorem own_st {A L : List HP} {h : Hp} (H : Own (st A :: L) h) : Own (A ++ L) h := Ent.own Ent.open_st H

theorem devP_open {a : Nat} {s : DevS} {L : List HP} {h : Hp} (H : Own (devP a s :: L) h) : ∃ pb cb pp cp rn rf, SlOK pb s.blocks.length cb ∧ SlOK pp s.pend.length cp ∧ s.OK ∧
    Own (pt a (.cells #[.slice pb s.blocks.length cb, .slice pp s.pend.length cp, .map (some rn), .map (some rf), .int .i64 s.budget, .bool s.power, .bool s.mounted] 89) :: vec 141 128 (s.blocks.map bcell) (.slice pb s.blocks.length cb) ::
      vec 144 129 (s.pend.map wcell) (.slice pp s.pend.length cp) :: mp (.int .i64) rn (newestF s.pend) :: mp (.int .i64) rf (faultF s.faults) :: L) h := by
  unfold devP at H
  obtain ⟨⟨sb, sp, rn, rf⟩, H⟩ := own_ex H
  replace H := own_st H
  simp only [List.cons_append, List.nil_append] at H
  obtain ⟨pb, cb, rfl, h1⟩ := vec_fact (Ent.own (show Ent _ [vec 141 128 (s.blocks.map bcell) sb] from by (repeat (first | exact Ent.refl _ | exact Ent.nil | (apply Ent.pick; focus ((repeat (first | exact Rem.here | apply Rem.there)); done)) | apply Ent.drop))) H)
  obtain ⟨pp, cp, rfl, h2⟩ := vec_fact (Ent.own (show Ent _ [vec 144 129 (s.pend.map wcell) sp] from by (repeat (first | exact Ent.refl _ | exact Ent.nil | (apply Ent.pick; focus ((repeat (first | exact Rem.here | apply Rem.there)); done)) | apply Ent.drop))) H)
  have hOK : s.OK := own_fact (Ent.own (show Ent _ [fact s.OK] from by (repeat (first | exact Ent.refl _ | exact Ent.nil | (apply Ent.pick; focus ((repeat (first | exact Rem.here | apply Rem.there)); done)) | apply Ent.drop))) H)
  simp only [List.length_map] at H h1 h2
  exact ⟨pb, cb, pp, cp, rn, rf, h1, h2, hOK, Ent.own (by (repeat (first | exact Ent.refl _ | exact Ent.nil | (apply Ent.pick; focus ((repeat (first | exact Rem.here | apply Rem.there)); done)) | apply Ent.drop))) H⟩

theorem dev_close {a : Nat} {s : DevS} {L : List HP} (hOK : s.OK) {sb sp : Value} {rn rf : Nat} :
    Ent (pt a (.cells #[sb, sp, .map (some rn), .map (some rf), .int .i64 s.budget, .bool s.power, .bool s.mounted] 89) :: vec 141 128 (s.blocks.map bcell) sb ::
      vec 144 129 (s.pend.map wcell) sp :: mp (.int .i64) rn (newestF s.pend) :: mp (.int .i64) rf (faultF s.faults) :: L) (devP a s :: L) := by
  refine (Ent.fact_intro hOK).trans ?_
  unfold devP
  refine Ent.trans ?_ (Ent.ex_intro (sb, sp, rn, rf))
  refine Ent.trans ?_ Ent.shut_st
  simp only [List.cons_append, List.nil_append]
  (repeat (first | exact Ent.refl _ | exact Ent.nil | (apply Ent.pick; focus ((repeat (first | exact Rem.here | apply Rem.there)); done)) | apply Ent.drop))

section
variable {P : Program} {w0 : World} {nt : Nat} {f : FuncId} {args : Array Value} {L : List HP} {R : Value → List HP → Prop} {env : Env} {Q : Exit → Act → World → Prop}
theorem Tr.open_dev {a : Nat} {s : DevS} (h : ∀ pb cb pp cp rn rf, SlOK pb s.blocks.length cb → SlOK pp s.pend.length cp → s.OK →
    Tr P f args (pt a (.cells #[.slice pb s.blocks.length cb, .slice pp s.pend.length cp, .map (some rn), .map (some rf), .int .i64 s.budget, .bool s.power, .bool s.mounted] 89) :: vec 141 128 (s.blocks.map bcell) (.slice pb s.blocks.length cb) ::
      vec 144 129 (s.pend.map wcell) (.slice pp s.pend.length cp) :: mp (.int .i64) rn (newestF s.pend) :: mp (.int .i64) rf (faultF s.faults) :: L) R) : Tr P f args (devP a s :: L) R := .mk fun w0 w hs => by
  obtain ⟨pb, cb, pp, cp, rn, rf, h1, h2, h3, H⟩ := devP_open hs.own
  exact (h pb cb pp cp rn rf h1 h2 h3).h w0 w ⟨hs.os, hs.tape, hs.output, hs.size, hs.drawn, H⟩
end

theorem dev_there (a : Nat) (i : Int) {n : Nat} {pb : Option Addr} {cb : Nat} {x1 x2 x3 x4 x5 x6 : Value} {T : TypeId} {L : List HP} (hr : ReadC L a (.cells #[.slice pb n cb, x1, x2, x3, x4, x5, x6] T)) :
    Tr Tryd.prog 81 [.pointer (some ⟨a, 0, none⟩), .int .i64 i].toArray L (fun v L' => v = .bool (decide (0 ≤ i ∧ i < n)) ∧ L = L') := by
  refine tr_enter Tryd.func81 rfl Tryd.ntmps81 rfl fun w0 => ?_
  repeat' (first
    | refine swl_op ?_
    | (refine s1_move ?_; refine sc_r (R_move (by rfl)) (by rfl) ?_)
    | (refine s1_load ?_; refine sc_r (L_load' (by rfl) (by infer_instance) (by rfl)) (by rfl) ?_)
    | (refine s1_fieldAddr ?_; refine sc_r (R_fieldAddr (by rfl)) (by rfl) ?_)
    | (refine s1_assign ?_; refine sc_r (R_assign (by rfl)) (by rfl) ?_)
    | (refine s1_pick ?_; first | refine sc_r (R_pick_t (by rfl) (by rfl)) (by rfl) ?_ | refine sc_r (R_pick_f (by rfl) (by rfl)) (by rfl) ?_)
    | (refine s1_bin ?_; first | refine sc_r (R_lss (by rfl) (by rfl)) (by rfl) ?_ | refine sc_r (R_geq (by rfl) (by rfl)) (by rfl) ?_)
    | (refine s1_call ?_; refine sc_r (R_len (by rfl)) (by rfl) ?_)
    | (refine s1_any ?_; refine sc_r (R_nilCheck (by rfl)) (by rfl) ?_)
    | refine swl_nil ?_
    | refine sx_next ?_
    | refine sw_seq ?_
    | refine sw_region ?_
    | refine swl_g_on (by rfl) (by rfl) ?_
    | refine swl_g_off (by rfl) (by rfl) (by rfl) (by rfl) ?_
    | refine swl_g_dec (by rfl) (by rfl) (fun hp => ?_) (fun hp => ?_)
    | refine sw_ret ?_
    | fail)
  all_goals refine sx_ret_of (res1 rfl (ResOne.tmp rfl)) L ⟨?_, rfl⟩ (by (repeat (first | exact Ent.refl _ | exact Ent.nil | (apply Ent.pick; focus ((repeat (first | exact Rem.here | apply Rem.there)); done)) | apply Ent.drop)))
  all_goals (congr 1; simp; omega)
theorem dev_there' (a : Nat) (i : Int) (t : Bool) {n : Nat} {pb : Option Addr} {cb : Nat} {x1 x2 x3 x4 x5 x6 : Value} {T : TypeId} {L : List HP} (hr : ReadC L a (.cells #[.slice pb n cb, x1, x2, x3, x4, x5, x6] T)) (h : decide (0 ≤ i ∧ i < (n : Int)) = t) :
    Tr Tryd.prog 81 [.pointer (some ⟨a, 0, none⟩), .int .i64 i].toArray L (fun v L' => v = .bool t ∧ L = L') := h ▸ dev_there a i hr

def spendE (bu : Int) (po mo : Bool) : Int := if !(po && decide (bu ≠ 0)) then 10 else if mo then 0 else 9
def spendN (bu : Int) (po : Bool) : Int := if !(po && decide (bu ≠ 0)) then bu else if 0 < bu then bu - 1 else bu
def spendP (bu : Int) (po : Bool) : Bool := po && decide (bu ≠ 0)
theorem dev_spend (a : Nat) {bu : Int} {po mo : Bool} {x0 x1 x2 x3 : Value} {T : TypeId} {L : List HP} (hbu : bu ≤ 9223372036854775807) :
    Tr Tryd.prog 76 [.pointer (some ⟨a, 0, none⟩)].toArray (pt a (.cells #[x0, x1, x2, x3, .int .i64 bu, .bool po, .bool mo] T) :: L)
      (fun v L' => v = .int .i64 (spendE bu po mo) ∧ L' = pt a (.cells #[x0, x1, x2, x3, .int .i64 (spendN bu po), .bool (spendP bu po), .bool mo] T) :: L) := by
  refine tr_enter Tryd.func76 rfl Tryd.ntmps76 rfl fun w0 => ?_
  unfold spendE spendN spendP
  by_cases h0 : bu = 0
  · subst h0
    repeat' (first
    | refine swl_op ?_
    | (refine s1_move ?_; refine sc_r (R_move (by rfl)) (by rfl) ?_)
    | (refine s1_load ?_; refine sc_r (L_load' (by rfl) (by infer_instance) (by rfl)) (by rfl) ?_)
    | (refine s1_fieldAddr ?_; refine sc_r (R_fieldAddr (by rfl)) (by rfl) ?_)
    | (refine s1_assign ?_; refine sc_r (R_assign (by rfl)) (by rfl) ?_)
    | (refine s1_bin ?_; refine sc_r (R_eql (by rfl) (by rfl)) (by rfl) ?_)
    | (refine s1_store ?_; (refine sc_w (by rfl) (W_storeL (by rfl) (by rfl) (by infer_instance) (by rfl) (by rfl) (by rfl)) (by rfl) ?_; rintro _ _ ⟨rfl, rfl⟩))
    | (refine s1_any ?_; first | refine sc_r (R_not (by rfl)) (by rfl) ?_ | refine sc_r (R_nilCheck (by rfl)) (by rfl) ?_)
    | refine swl_nil ?_
    | refine sx_next ?_
    | refine sw_seq ?_
    | refine sw_region ?_
    | refine sx_past_ret ?_
    | refine sw_cond_true (by rfl) ?_
    | refine sw_ret ?_
    | fail)
    all_goals refine sx_ret_of (res1 rfl (ResOne.tmp rfl)) _ ⟨?_, rfl⟩ ?_
    all_goals first | simp; done | (simp; (repeat (first | exact Ent.refl _ | exact Ent.nil | (apply Ent.pick; focus ((repeat (first | exact Rem.here | apply Rem.there)); done)) | apply Ent.drop)))
  · cases po
    · repeat' (first
    | refine swl_op ?_
    | (refine s1_move ?_; refine sc_r (R_move (by rfl)) (by rfl) ?_)
    | (refine s1_load ?_; refine sc_r (L_load' (by rfl) (by infer_instance) (by rfl)) (by rfl) ?_)
    | (refine s1_fieldAddr ?_; refine sc_r (R_fieldAddr (by rfl)) (by rfl) ?_)
    | (refine s1_assign ?_; refine sc_r (R_assign (by rfl)) (by rfl) ?_)
    | (refine s1_bin ?_; refine sc_r (R_eql (by rfl) (by rfl)) (by rfl) ?_)
    | (refine s1_any ?_; first | refine sc_r (R_not (by rfl)) (by rfl) ?_ | refine sc_r (R_nilCheck (by rfl)) (by rfl) ?_)
    | refine swl_nil ?_
    | refine sx_next ?_
    | refine sw_seq ?_
    | refine sw_region ?_
    | refine sx_past_ret ?_
    | refine sw_cond_true (by rfl) ?_
    | refine sw_cond_neg (by rfl) (by first | assumption | omega) ?_
    | refine sw_ret ?_
    | refine sw_skip ?_
    | fail)
      all_goals refine sx_ret_of (res1 rfl (ResOne.tmp rfl)) _ ⟨?_, rfl⟩ ?_
      all_goals first | simp; done | (simp; (repeat (first | exact Ent.refl _ | exact Ent.nil | (apply Ent.pick; focus ((repeat (first | exact Rem.here | apply Rem.there)); done)) | apply Ent.drop)))
    · have h00 : decide (bu ≠ 0) = true := by simpa using h0
      rw [h00]
      cases mo
      all_goals
        repeat' (first
    | refine swl_op ?_
    | (refine s1_move ?_; refine sc_r (R_move (by rfl)) (by rfl) ?_)
    | (refine s1_load ?_; refine sc_r (L_load' (by rfl) (by infer_instance) (by rfl)) (by rfl) ?_)
    | (refine s1_fieldAddr ?_; refine sc_r (R_fieldAddr (by rfl)) (by rfl) ?_)
    | (refine s1_assign ?_; refine sc_r (R_assign (by rfl)) (by rfl) ?_)
    | (refine s1_bin ?_; first | refine sc_r (R_gtr (by rfl) (by rfl)) (by rfl) ?_ | refine sc_r (R_eql (by rfl) (by rfl)) (by rfl) ?_ | refine sc_r (R_sub64 (by rfl) (by rfl) (by omega)) (by rfl) ?_)
    | (refine s1_store ?_; (refine sc_w (by rfl) (W_storeL (by rfl) (by rfl) (by infer_instance) (by rfl) (by rfl) (by rfl)) (by rfl) ?_; rintro _ _ ⟨rfl, rfl⟩))
    | (refine s1_any ?_; first | refine sc_r (R_not (by rfl)) (by rfl) ?_ | refine sc_r (R_nilCheck (by rfl)) (by rfl) ?_)
    | refine swl_nil ?_
    | refine sx_next ?_
    | refine sw_seq ?_
    | refine sw_region ?_
    | refine sx_past_ret ?_
    | refine sw_cond_true (by rfl) ?_
    | refine sw_cond_false (by rfl) ?_
    | refine sw_cond_neg (by rfl) (by first | assumption | omega) ?_
    | refine sw_cond_dec (by rfl) (fun hp => ?_) (fun hp => ?_)
    | refine sw_ret ?_
    | refine sw_skip ?_
    | fail)
        all_goals refine sx_ret_of (res1 rfl (ResOne.tmp rfl)) _ ⟨?_, rfl⟩ ?_
        all_goals first | rfl | (simp only [Bool.and_self, Bool.not_true, Bool.false_eq_true, if_false]; (first | rw [if_pos hp] | rw [if_neg hp]); (repeat (first | exact Ent.refl _ | exact Ent.nil | (apply Ent.pick; focus ((repeat (first | exact Rem.here | apply Rem.there)); done)) | apply Ent.drop)))
end Go.Proofs.YtcpfehldofmipaaDoor
