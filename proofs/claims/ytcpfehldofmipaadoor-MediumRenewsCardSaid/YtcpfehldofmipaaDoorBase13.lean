/-
  OWN BASE, PART 13: a region in which more than one of the heavy operations may be the next one: 'SWG'.
-/
import Derived.Test.YtcpfehldofmipaaDoorBase12
namespace Go.SL
open Go
section
variable {P : Program} {w0 : World} {nt : Nat} {L Lr : List HP} {env : Env} {Q : Exit → Act → World → Prop} {ops : Array Oper} {listed : Array Bool} {n i : Nat}
variable {dst : Option Tmp} {op : Op} {ty : TypeId} {pos : String} {after : Array Edge}

structure SWG (P : Program) (w0 : World) (nt : Nat) (Lr L : List HP) (env : Env) (ops : Array Oper) (listed : Array Bool) (n : Nat) (Q : Exit → Act → World → Prop) : Prop where
  h : Region.noSelect ops = true → Ent L Lr → ∀ w a, Sat w0 w L → Rel nt env a → wpAnyH P .any ops Q (fun w => Sat w0 w Lr) n listed a w

theorem sw_open {id : Nat} {l : List Oper} (hm : P.follows .mixedOrders = true) (hns : Region.noSelect l.toArray = true)
    (h : SWG P w0 nt L L env l.toArray (Array.replicate l.toArray.size false) l.length Q) : SW P w0 nt L env (.region id l.toArray true) Q := .mk fun w a hs hr => by
  refine wp_region_held (S := fun w => Sat w0 w L) hm ?_
  have := h.h hns (Ent.refl L) w.drew a hs.drew hr
  simpa using this
/-- from here on one order is enough -/
theorem swg_order (order : List (Nat × Bool)) (hlen : order.length = n) (hok : hOK ops listed order = true) (h : SWH P w0 nt Lr L env ops listed order Q) : SWG P w0 nt Lr L env ops listed n Q := .mk fun hns he w a hs hr => by
  subst hlen; exact h.h hok hns he w a hs hr
theorem swg_take [hp : PanicOK Q] (i : Nat) {g : Option (Nat × Bool)} (hok : (Region.free .any ops listed i && (Region.ready .any ops listed).contains i) = true) (hi : ops[i]? = some ⟨dst, op, ty, pos, after, g⟩)
    (hg : ∀ a, Rel nt env a → Region.wanted ⟨dst, op, ty, pos, after, g⟩ (yielded ops a.tmps) = true)
    (h : S1 P w0 nt Lr L env op ty dst false (fun env' L' => SWG P w0 nt Lr L' env' ops (listed.setIfInBounds i true) n Q)) : SWG P w0 nt Lr L env ops listed (n + 1) Q := by
  simp only [Bool.and_eq_true] at hok
  cases h with
  | r h hd k =>
    refine .mk fun hns he w a hw hr => ?_
    refine wpAnyH_take hi hns hok.1 hok.2 (fun c a w => hp.h c a _ _ w) (.inl ⟨hg a hr, fun w' hw' => h.h _ rfl rfl a hr w' hw'⟩) (hw.ent he) ?_
    exact k.h hns he w _ hw (hr.put hd _)
  | w hh => cases hh
  | c hh => cases hh

/-- one of those that may be the next -/
structure SWC (P : Program) (w0 : World) (nt : Nat) (Lr L : List HP) (env : Env) (ops : Array Oper) (listed : Array Bool) (n i : Nat) (Q : Exit → Act → World → Prop) : Prop where
  h : Region.noSelect ops = true → Ent L Lr → ∀ w a, Sat w0 w L → Rel nt env a → wpOp P ops Q i (fun a' w' => Sat w0 w' Lr ∧ wpAnyH P .any ops Q (fun w => Sat w0 w Lr) n (listed.setIfInBounds i true) a' w') a w

theorem swg_choice {rs : List Nat} (hr : Region.ready .any ops listed = rs) (hne : rs.isEmpty = false) (h : ∀ i ∈ rs, SWC P w0 nt Lr L env ops listed n i Q) : SWG P w0 nt Lr L env ops listed (n + 1) Q := .mk fun hns he w a hs hrl => by
  refine wpAnyH_all hr (fun h0 => by rw [h0] at hne; cases hne) fun i hi => ?_
  exact (h i hi).h hns he w a hs hrl

theorem swc_op {g : Option (Nat × Bool)} (hi : ops[i]? = some ⟨dst, op, ty, pos, after, g⟩)
    (hg : ∀ a, Rel nt env a → Region.wanted ⟨dst, op, ty, pos, after, g⟩ (yielded ops a.tmps) = true)
    (h : S1 P w0 nt L L env op ty dst true (fun env' L' => Ent L' Lr ∧ SWG P w0 nt Lr L' env' ops (listed.setIfInBounds i true) n Q)) : SWC P w0 nt Lr L env ops listed n i Q := .mk fun hns he w a hw hr => by
  unfold wpOp
  simp only [hi]
  rw [if_pos (hg a hr)]
  refine .inl ?_
  cases h with
  | r h hd k =>
    rw [Oper.wp, h.h _ rfl rfl a hr w hw]
    exact ⟨hw.ent k.1, k.2.h hns k.1 w _ hw (hr.put hd _)⟩
  | w _ h hd k =>
    obtain ⟨v, w', L', h1, h2, h3⟩ := h.h ⟨dst, op, ty, pos, after, g⟩ rfl rfl a hr w hw
    obtain ⟨h4, h5⟩ := k v L' h3
    rcases h1 with h1 | ⟨rfl, h1⟩ <;> rw [Oper.wp, h1] <;> exact ⟨h2.ent h4, h5.h hns h4 w' _ h2 (hr.put hd _)⟩
  | c _ h hd k =>
    obtain ⟨f, args, h1, h2⟩ := h.h ⟨dst, op, ty, pos, after, g⟩ rfl rfl a hr w hw
    rw [Oper.wp, h1]
    refine Calls.mono h2 fun e w' ⟨v, L', he, h3, h4⟩ => ?_
    subst he
    obtain ⟨h5, h6⟩ := k v L' h4
    exact ⟨h3.ent h5, h6.h hns h5 w' _ h3 (hr.put hd v)⟩

theorem swg_ent {L' : List HP} (e : Ent L L') (h2 : Ent L' Lr) (h : SWG P w0 nt Lr L' env ops listed n Q) : SWG P w0 nt Lr L env ops listed n Q := .mk fun hns _ w a hw hr => h.h hns h2 w a (hw.ent e) hr
theorem swg_sub {E : Env} (e : subE E env) (h : SWG P w0 nt Lr L E ops listed n Q) : SWG P w0 nt Lr L env ops listed n Q := .mk fun hns he w a hw hr => h.h hns he w a hw (hr.sub e)
theorem swg_listed {listed' : Array Bool} (e : listed = listed') (h : SWG P w0 nt Lr L env ops listed' n Q) : SWG P w0 nt Lr L env ops listed n Q := e ▸ h

theorem swc_alloc {t : TypeId} {v : Value} {cs : Array Value} {d : Nat} (hi : ops[i]? = some ⟨some d, .alloc t, ty, pos, after, none⟩) [hz : ZeroC P t v] (hc : v.cells = cs) (hd : dstOk nt (some d) = true) (he : Ent L Lr)
    (k : ∀ b, SWG P w0 nt Lr (pt b (.cells cs t) :: L) ((d, .pointer (some ⟨b, 0, none⟩)) :: env) ops (listed.setIfInBounds i true) n Q) : SWC P w0 nt Lr L env ops listed n i Q :=
  swc_op hi (fun _ _ => wanted_none) (.w rfl (W_alloc hc) hd fun _ _ ⟨b, e1, e2⟩ => by
    subst e1; subst e2; exact ⟨Ent.trans (Ent.drop (Ent.refl _)) he, k b⟩)

def rdy (ops : Array Oper) (listed : Array Bool) (l : List Nat) : Bool := Region.ready .any ops listed == l
def chk3 (ops : Array Oper) (listed : Array Bool) (i j k : Nat) : Bool :=
  rdy ops listed [i, j, k] && rdy ops (listed.setIfInBounds i true) [j, k] && rdy ops (listed.setIfInBounds j true) [i, k] && rdy ops (listed.setIfInBounds k true) [i, j] &&
  rdy ops ((listed.setIfInBounds i true).setIfInBounds j true) [k] && rdy ops ((listed.setIfInBounds i true).setIfInBounds k true) [j] && rdy ops ((listed.setIfInBounds j true).setIfInBounds k true) [i] &&
  !(Nat.beq i j) && !(Nat.beq i k) && !(Nat.beq j k)

theorem rdy_is {listed : Array Bool} {l : List Nat} (h : rdy ops listed l = true) : Region.ready .any ops listed = l := by simpa [rdy] using h

/-- three new blocks, in whatever order -/
theorem swg_alloc3 {t1 t2 t3 ty1 ty2 ty3 : TypeId} {v1 v2 v3 : Value} {c1 c2 c3 : Array Value} {d1 d2 d3 : Nat} {p1 p2 p3 : String} {a1 a2 a3 : Array Edge} (i1 i2 i3 : Nat)
    (h1 : ops[i1]? = some ⟨some d1, .alloc t1, ty1, p1, a1, none⟩) (h2 : ops[i2]? = some ⟨some d2, .alloc t2, ty2, p2, a2, none⟩) (h3 : ops[i3]? = some ⟨some d3, .alloc t3, ty3, p3, a3, none⟩)
    [ZeroC P t1 v1] [ZeroC P t2 v2] [ZeroC P t3 v3] (e1 : v1.cells = c1) (e2 : v2.cells = c2) (e3 : v3.cells = c3)
    (hd : (dstOk nt (some d1) && dstOk nt (some d2) && dstOk nt (some d3) && !(Nat.beq d1 d2) && !(Nat.beq d1 d3) && !(Nat.beq d2 d3)) = true) (hc : chk3 ops listed i1 i2 i3 = true) (he : Ent L Lr)
    (k : ∀ b1 b2 b3, SWG P w0 nt Lr (pt b1 (.cells c1 t1) :: pt b2 (.cells c2 t2) :: pt b3 (.cells c3 t3) :: L) ((d1, .pointer (some ⟨b1, 0, none⟩)) :: (d2, .pointer (some ⟨b2, 0, none⟩)) :: (d3, .pointer (some ⟨b3, 0, none⟩)) :: env) ops
      (((listed.setIfInBounds i1 true).setIfInBounds i2 true).setIfInBounds i3 true) n Q) : SWG P w0 nt Lr L env ops listed (n + 3) Q := by
  simp only [chk3, Bool.and_eq_true, Bool.not_eq_true'] at hc hd
  obtain ⟨⟨⟨⟨⟨⟨⟨⟨⟨r0, r1⟩, r2⟩, r3⟩, r12⟩, r13⟩, r23⟩, n12⟩, n13⟩, n23⟩ := hc
  obtain ⟨⟨⟨⟨⟨x1, x2⟩, x3⟩, m12⟩, m13⟩, m23⟩ := hd
  have hne12 := ne_of_nbeq n12
  have hne13 := ne_of_nbeq n13
  have hne23 := ne_of_nbeq n23
  have y12 := ne_of_nbeq m12
  have y13 := ne_of_nbeq m13
  have y23 := ne_of_nbeq m23
  have C : ∀ (l : Array Bool) {i j : Nat}, i ≠ j → (l.setIfInBounds i true).setIfInBounds j true = (l.setIfInBounds j true).setIfInBounds i true := fun l i j h => Array.setIfInBounds_comm _ _ h
  have r12x := r12; rw [C _ hne12] at r12x
  have r13x := r13; rw [C _ hne13] at r13x
  have r23x := r23; rw [C _ hne23] at r23x
  have D : ∀ {x : HP} {M : List HP}, Ent M Lr → Ent (x :: M) Lr := fun h => Ent.trans (Ent.drop (Ent.refl _)) h
  refine swg_choice (rdy_is r0) rfl ?_
  intro i hi
  simp only [List.mem_cons, List.not_mem_nil, or_false] at hi
  rcases hi with rfl | rfl | rfl
  · refine swc_alloc h1 e1 x1 he fun b1 => swg_choice (rdy_is r1) rfl ?_
    intro j hj
    simp only [List.mem_cons, List.not_mem_nil, or_false] at hj
    rcases hj with rfl | rfl
    · refine swc_alloc h2 e2 x2 (D he) fun b2 => swg_choice (rdy_is r12) rfl ?_
      intro l hl
      have hl' := List.mem_singleton.1 hl
      subst hl'
      refine swc_alloc h3 e3 x3 (D (D he)) fun b3 => ?_
      exact swg_ent (by (repeat (first | exact Ent.refl _ | exact Ent.nil | (apply Ent.pick; focus ((repeat (first | exact Rem.here | apply Rem.there)); done)) | apply Ent.drop))) (D (D (D he))) (swg_sub (fun t v hv => by simp only [Env.get, Nat.beq_eq] at hv ⊢; clear k h1 h2 h3 r0 r1 r2 r3 r12 r13 r23 r12x r13x r23x C D; grind) (swg_listed (by first | rfl | grind) (k b1 b2 b3)))
    · refine swc_alloc h3 e3 x3 (D he) fun b3 => swg_choice (rdy_is r13) rfl ?_
      intro l hl
      have hl' := List.mem_singleton.1 hl
      subst hl'
      refine swc_alloc h2 e2 x2 (D (D he)) fun b2 => ?_
      exact swg_ent (by (repeat (first | exact Ent.refl _ | exact Ent.nil | (apply Ent.pick; focus ((repeat (first | exact Rem.here | apply Rem.there)); done)) | apply Ent.drop))) (D (D (D he))) (swg_sub (fun t v hv => by simp only [Env.get, Nat.beq_eq] at hv ⊢; clear k h1 h2 h3 r0 r1 r2 r3 r12 r13 r23 r12x r13x r23x C D; grind) (swg_listed (by first | rfl | grind) (k b1 b2 b3)))
  · refine swc_alloc h2 e2 x2 he fun b2 => swg_choice (rdy_is r2) rfl ?_
    intro j hj
    simp only [List.mem_cons, List.not_mem_nil, or_false] at hj
    rcases hj with rfl | rfl
    · refine swc_alloc h1 e1 x1 (D he) fun b1 => swg_choice (rdy_is r12x) rfl ?_
      intro l hl
      have hl' := List.mem_singleton.1 hl
      subst hl'
      refine swc_alloc h3 e3 x3 (D (D he)) fun b3 => ?_
      exact swg_ent (by (repeat (first | exact Ent.refl _ | exact Ent.nil | (apply Ent.pick; focus ((repeat (first | exact Rem.here | apply Rem.there)); done)) | apply Ent.drop))) (D (D (D he))) (swg_sub (fun t v hv => by simp only [Env.get, Nat.beq_eq] at hv ⊢; clear k h1 h2 h3 r0 r1 r2 r3 r12 r13 r23 r12x r13x r23x C D; grind) (swg_listed (by first | rfl | grind) (k b1 b2 b3)))
    · refine swc_alloc h3 e3 x3 (D he) fun b3 => swg_choice (rdy_is r23) rfl ?_
      intro l hl
      have hl' := List.mem_singleton.1 hl
      subst hl'
      refine swc_alloc h1 e1 x1 (D (D he)) fun b1 => ?_
      exact swg_ent (by (repeat (first | exact Ent.refl _ | exact Ent.nil | (apply Ent.pick; focus ((repeat (first | exact Rem.here | apply Rem.there)); done)) | apply Ent.drop))) (D (D (D he))) (swg_sub (fun t v hv => by simp only [Env.get, Nat.beq_eq] at hv ⊢; clear k h1 h2 h3 r0 r1 r2 r3 r12 r13 r23 r12x r13x r23x C D; grind) (swg_listed (by first | rfl | grind) (k b1 b2 b3)))
  · refine swc_alloc h3 e3 x3 he fun b3 => swg_choice (rdy_is r3) rfl ?_
    intro j hj
    simp only [List.mem_cons, List.not_mem_nil, or_false] at hj
    rcases hj with rfl | rfl
    · refine swc_alloc h1 e1 x1 (D he) fun b1 => swg_choice (rdy_is r13x) rfl ?_
      intro l hl
      have hl' := List.mem_singleton.1 hl
      subst hl'
      refine swc_alloc h2 e2 x2 (D (D he)) fun b2 => ?_
      exact swg_ent (by (repeat (first | exact Ent.refl _ | exact Ent.nil | (apply Ent.pick; focus ((repeat (first | exact Rem.here | apply Rem.there)); done)) | apply Ent.drop))) (D (D (D he))) (swg_sub (fun t v hv => by simp only [Env.get, Nat.beq_eq] at hv ⊢; clear k h1 h2 h3 r0 r1 r2 r3 r12 r13 r23 r12x r13x r23x C D; grind) (swg_listed (by first | rfl | grind) (k b1 b2 b3)))
    · refine swc_alloc h2 e2 x2 (D he) fun b2 => swg_choice (rdy_is r23x) rfl ?_
      intro l hl
      have hl' := List.mem_singleton.1 hl
      subst hl'
      refine swc_alloc h1 e1 x1 (D (D he)) fun b1 => ?_
      exact swg_ent (by (repeat (first | exact Ent.refl _ | exact Ent.nil | (apply Ent.pick; focus ((repeat (first | exact Rem.here | apply Rem.there)); done)) | apply Ent.drop))) (D (D (D he))) (swg_sub (fun t v hv => by simp only [Env.get, Nat.beq_eq] at hv ⊢; clear k h1 h2 h3 r0 r1 r2 r3 r12 r13 r23 r12x r13x r23x C D; grind) (swg_listed (by first | rfl | grind) (k b1 b2 b3)))

theorem R_neg64 {t : TypeId} {x : Operand} {a : Int} (hx : evO env x = some (.int .i64 a)) (h : -9223372036854775808 < a ∧ a ≤ 9223372036854775807) : OpR P w0 nt L env (.unOp .neg t x) ty (.int .i64 (-a)) := by
  have e : IntKind.i64.wrap (-a) = -a := wrap_i64_of (by omega)
  have := R_neg (P := P) (w0 := w0) (nt := nt) (L := L) (env := env) (ty := ty) (t := t) hx
  rwa [e] at this
/-- a struct that stands within a block that is written out -/
theorem L_load_part {t : TypeId} {x : Operand} {b off n : Nat} {c : Array Value} {l : List Value} {T : TypeId} {fr : Nat × Nat} [AggC P t true] [SizeC P t n] (hx : evO env x = some (.pointer (some ⟨b, off, none⟩)))
    (hr : ReadC L b (.cells c T fr)) (hle : Nat.ble (off + n) c.toList.length = true) (hv : (c.toList.drop off).take n = l) : OpR P w0 nt L env (.load t x) ty (.agg l.toArray) := by
  refine R_load_agg hx hr.h (by simpa using hle) ?_
  rw [← hv]; apply Array.ext'; simp
end
end Go.SL
