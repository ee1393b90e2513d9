/-
  OWN BASE, PART 2: walking a function's code over a list of parts ('SW', 'SWL', 'SWH', 'SX'); contracts ('Tr').
-/
import Derived.Test.YtcpfehldofmipaaDoorBase1
import Derived.Deep.LoopGhost
namespace Go.SL
open Go

theorem nbeq_ne {a b : Nat} (h : a ≠ b) : Nat.beq a b = false := by
  cases hh : Nat.beq a b
  · rfl
  · exact absurd (Nat.eq_of_beq_eq_true hh) h
theorem ne_of_nbeq {a b : Nat} (h : Nat.beq a b = false) : a ≠ b := Nat.ne_of_beq_eq_false h

/-! ### What is known of the temporaries -/

abbrev Env := List (Nat × Value)

def Env.get : Env → Nat → Option Value
  | [], _ => none
  | (k, v) :: r, t => if Nat.beq k t = true then some v else Env.get r t

def evO (env : Env) : Operand → Option Value
  | .tmp t => env.get t
  | .const v => some v
  | .global g => some (.pointer (some ⟨g, 0, none⟩))
  | .func f => some (.func (.func f) #[] #[])

def putE (env : Env) (dst : Option Tmp) (v : Value) : Env :=
  match dst with
  | some d => (d, v) :: env
  | none => env

def dstOk (nt : Nat) : Option Tmp → Bool
  | some d => Nat.blt d nt
  | none => true

structure Rel (nt : Nat) (env : Env) (a : Act) : Prop where
  defers : a.defers = []
  size : a.tmps.size = nt
  get : ∀ t v, env.get t = some v → a.tmps[t]? = some v

theorem Rel.eval {nt : Nat} {env : Env} {a : Act} (h : Rel nt env a) {x : Operand} {v : Value} (hx : evO env x = some v) : a.eval x = v := by
  cases x <;> simp only [evO, Option.some.injEq] at hx <;> simp only [Act.eval]
  case tmp t => have := h.get t v hx; simp [Array.getD_eq_getD_getElem?, this]
  all_goals exact hx

theorem Rel.put {nt : Nat} {env : Env} {a : Act} (h : Rel nt env a) {dst : Option Tmp} (hd : dstOk nt dst = true) (v : Value) : Rel nt (putE env dst v) (a.put dst v) := by
  cases dst with
  | none => exact h
  | some d =>
    have hlt : d < nt := by simpa [dstOk] using hd
    refine ⟨h.defers, by simp [Act.put, h.size], fun t u hu => ?_⟩
    simp only [putE, Env.get] at hu
    simp only [Act.put, Array.getElem?_setIfInBounds, h.size]
    by_cases hdt : d = t
    · subst hdt
      simp at hu
      simp [hlt, hu]
    · have : Nat.beq d t = false := nbeq_ne hdt
      simp [this] at hu
      simpa [hdt] using h.get t u hu

def subE (E env : Env) : Prop := ∀ t v, E.get t = some v → env.get t = some v
theorem subE.nil {env : Env} : subE [] env := fun _ _ h => by simp [Env.get] at h
theorem subE.cons {t : Nat} {v : Value} {E env : Env} (h : env.get t = some v) (k : subE E env) : subE ((t, v) :: E) env := fun u x hx => by
  simp only [Env.get] at hx
  by_cases e : t = u
  · subst e; simp at hx; rw [← hx]; exact h
  · have : Nat.beq t u = false := nbeq_ne e
    simp [this] at hx
    exact k u x hx
theorem Rel.sub {nt : Nat} {E env : Env} {a : Act} (h : Rel nt env a) (s : subE E env) : Rel nt E a := ⟨h.defers, h.size, fun t v hv => h.get t v (s t v hv)⟩

section
variable {P : Program} {w0 : World} {nt : Nat}

/-! ### One operation -/

/-- It yields v and turns nothing. -/
structure OpR (P : Program) (w0 : World) (nt : Nat) (L : List HP) (env : Env) (op : Op) (ty : TypeId) (v : Value) : Prop where
  h : ∀ (o : Oper), o.op = op → o.type = ty → ∀ a, Rel nt env a → ∀ w, Sat w0 w L → (execOp a.eval o).run P w = .ok (.value v) w

/-- It yields some v, and leaves some L', as K says. -/
structure OpW (P : Program) (w0 : World) (nt : Nat) (L : List HP) (env : Env) (op : Op) (ty : TypeId) (K : Value → List HP → Prop) : Prop where
  h : ∀ (o : Oper), o.op = op → o.type = ty → ∀ a, Rel nt env a → ∀ w, Sat w0 w L → ∃ v w' L', ((execOp a.eval o).run P w = .ok (.value v) w' ∨ (v = undef ∧ (execOp a.eval o).run P w = .ok .skip w')) ∧ Sat w0 w' L' ∧ K v L'

/-- A contract: called with args over L the function returns some v over some L', as R says. -/
structure Tr (P : Program) (f : FuncId) (args : Array Value) (L : List HP) (R : Value → List HP → Prop) : Prop where
  h : ∀ w0 w, Sat w0 w L → Calls P f args w fun e w' => ∃ v L', e = .returned v ∧ Sat w0 w' L' ∧ R v L'

/-- It calls, and the call returns some v over some L', as K says. -/
structure OpC (P : Program) (w0 : World) (nt : Nat) (L : List HP) (env : Env) (op : Op) (ty : TypeId) (K : Value → List HP → Prop) : Prop where
  h : ∀ (o : Oper), o.op = op → o.type = ty → ∀ a, Rel nt env a → ∀ w, Sat w0 w L → ∃ f args, (execOp a.eval o).run P w = .ok (.enter f args) w ∧
    Calls P f args w fun e w' => ∃ v L', e = .returned v ∧ Sat w0 w' L' ∧ K v L'

/-! ### Walking -/

structure SW (P : Program) (w0 : World) (nt : Nat) (L : List HP) (env : Env) (c : Code) (Q : Exit → Act → World → Prop) : Prop where
  h : ∀ w a, Sat w0 w L → Rel nt env a → c.wp P Q a w
structure SWL (P : Program) (w0 : World) (nt : Nat) (L : List HP) (env : Env) (ops : Array Oper) (rest : List Oper) (Q : Exit → Act → World → Prop) : Prop where
  h : ∀ w a, Sat w0 w L → Rel nt env a → wpList P ops Q rest a w
structure SX (w0 : World) (nt : Nat) (L : List HP) (env : Env) (e : Exit) (Q : Exit → Act → World → Prop) : Prop where
  h : ∀ w a, Sat w0 w L → Rel nt env a → Q e a w

variable {L : List HP} {env : Env} {Q : Exit → Act → World → Prop}

theorem sw_seq {x y : Code} (h : SW P w0 nt L env x (Exit.then (y.wp P Q) Q)) : SW P w0 nt L env (.seq x y) Q := .mk fun w a hs hr => wp_seq (h.h w a hs hr)
theorem sw_block {id : Nat} {c : Code} (h : SW P w0 nt L env c (Exit.inBlock id Q)) : SW P w0 nt L env (.block id c) Q := .mk fun w a hs hr => wp_block (h.h w a hs hr)
theorem sw_skip (h : SX w0 nt L env .normal Q) : SW P w0 nt L env .skip Q := .mk fun w a hs hr => wp_skip (h.h w a hs hr)
theorem sw_ret (h : SX w0 nt L env .ret Q) : SW P w0 nt L env .ret Q := .mk fun w a hs hr => wp_ret (h.h w a hs hr)
theorem sw_exit {id : Nat} (h : SX w0 nt L env (.exit id) Q) : SW P w0 nt L env (.exit id) Q := .mk fun w a hs hr => wp_exit (h.h w a hs hr)
theorem sw_region {id : Nat} {l : List Oper} (h : SWL P w0 nt L env l.toArray l Q) : SW P w0 nt L env (.region id l.toArray false) Q := .mk fun w a hs hr => wp_region_lit (h.h w a hs hr)

theorem sx_next {c : Code} (h : SW P w0 nt L env c Q) : SX w0 nt L env .normal (Exit.then (c.wp P Q) Q) := .mk fun w a hs hr => h.h w a hs hr
theorem sx_past_ret {K : Act → World → Prop} (h : SX w0 nt L env .ret Q) : SX w0 nt L env .ret (Exit.then K Q) := .mk fun w a hs hr => h.h w a hs hr
theorem sx_past_exit {K : Act → World → Prop} {id : Nat} (h : SX w0 nt L env (.exit id) Q) : SX w0 nt L env (.exit id) (Exit.then K Q) := .mk fun w a hs hr => h.h w a hs hr
theorem sx_block_normal {id : Nat} (h : SX w0 nt L env .normal Q) : SX w0 nt L env .normal (Exit.inBlock id Q) := .mk fun w a hs hr => h.h w a hs hr
theorem sx_block_ret {id : Nat} (h : SX w0 nt L env .ret Q) : SX w0 nt L env .ret (Exit.inBlock id Q) := .mk fun w a hs hr => h.h w a hs hr
theorem sx_block_here {id : Nat} (h : SX w0 nt L env .normal Q) : SX w0 nt L env (.exit id) (Exit.inBlock id Q) := .mk fun w a hs hr => by simpa [Exit.inBlock] using h.h w a hs hr
theorem sx_block_past {id j : Nat} (hj : Nat.beq j id = false) (h : SX w0 nt L env (.exit j) Q) : SX w0 nt L env (.exit j) (Exit.inBlock id Q) := .mk fun w a hs hr => by
  have : j ≠ id := ne_of_nbeq hj
  simpa [Exit.inBlock, this] using h.h w a hs hr

theorem sw_cond {c : Operand} {x y : Code} {t : Bool} (hc : evO env c = some (.bool t)) (h : SW P w0 nt L env (if t then x else y) Q) : SW P w0 nt L env (.cond c x y) Q :=
  .mk fun w a hs hr => wp_cond (hr.eval hc) (h.h w a hs hr)
theorem sw_cond_true {c : Operand} {x y : Code} (hc : evO env c = some (.bool true)) (h : SW P w0 nt L env x Q) : SW P w0 nt L env (.cond c x y) Q := sw_cond hc h
theorem sw_cond_false {c : Operand} {x y : Code} (hc : evO env c = some (.bool false)) (h : SW P w0 nt L env y Q) : SW P w0 nt L env (.cond c x y) Q := sw_cond hc h
theorem sw_cond_dec {c : Operand} {x y : Code} {p : Prop} [Decidable p] (hc : evO env c = some (.bool (decide p))) (ht : p → SW P w0 nt L env x Q) (hf : ¬ p → SW P w0 nt L env y Q) :
    SW P w0 nt L env (.cond c x y) Q := by
  by_cases hp : p
  · exact sw_cond_true (by simpa [hp] using hc) (ht hp)
  · exact sw_cond_false (by simpa [hp] using hc) (hf hp)
theorem sw_cond_bool {c : Operand} {x y : Code} {t : Bool} (hc : evO env c = some (.bool t)) (ht : t = true → SW P w0 nt L env x Q) (hf : t = false → SW P w0 nt L env y Q) :
    SW P w0 nt L env (.cond c x y) Q := by
  cases t
  · exact sw_cond_false hc (hf rfl)
  · exact sw_cond_true hc (ht rfl)
theorem sw_cond_not {c : Operand} {x y : Code} {p : Prop} [Decidable p] (hc : evO env c = some (.bool (!decide p))) (ht : ¬ p → SW P w0 nt L env x Q) (hf : p → SW P w0 nt L env y Q) :
    SW P w0 nt L env (.cond c x y) Q := by
  by_cases hp : p
  · exact sw_cond_false (by simpa [hp] using hc) (hf hp)
  · exact sw_cond_true (by simpa [hp] using hc) (ht hp)

/-- Another list, another knowledge. -/
theorem sw_ent {c : Code} {L' : List HP} (e : Ent L L') (h : SW P w0 nt L' env c Q) : SW P w0 nt L env c Q := .mk fun w a hs hr => h.h w a (hs.ent e) hr
theorem sw_sub {c : Code} {E : Env} (e : subE E env) (h : SW P w0 nt L E c Q) : SW P w0 nt L env c Q := .mk fun w a hs hr => h.h w a hs (hr.sub e)
theorem swl_ent {ops : Array Oper} {rest : List Oper} {L' : List HP} (e : Ent L L') (h : SWL P w0 nt L' env ops rest Q) : SWL P w0 nt L env ops rest Q := .mk fun w a hs hr => h.h w a (hs.ent e) hr
theorem sx_ent {e : Exit} {L' : List HP} (en : Ent L L') (h : SX w0 nt L' env e Q) : SX w0 nt L env e Q := .mk fun w a hs hr => h.h w a (hs.ent en) hr
/-- A fact that the world bears. -/
theorem sw_know {c : Code} {φ : Prop} (hφ : ∀ h, Own L h → φ) (h : φ → SW P w0 nt L env c Q) : SW P w0 nt L env c Q := .mk fun w a hs hr => (h (hφ _ hs.own)).h w a hs hr
theorem swl_know {ops : Array Oper} {rest : List Oper} {φ : Prop} (hφ : ∀ h, Own L h → φ) (h : φ → SWL P w0 nt L env ops rest Q) : SWL P w0 nt L env ops rest Q := .mk fun w a hs hr => (h (hφ _ hs.own)).h w a hs hr
theorem sx_know {e : Exit} {φ : Prop} (hφ : ∀ h, Own L h → φ) (h : φ → SX w0 nt L env e Q) : SX w0 nt L env e Q := .mk fun w a hs hr => (h (hφ _ hs.own)).h w a hs hr

/-! a cut: what holds behind a piece, whichever way it was gone -/
theorem sw_cut {c : Code} {K : Exit → Act → World → Prop} (h : SW P w0 nt L env c K) (k : ∀ e a w, K e a w → Q e a w) : SW P w0 nt L env c Q := .mk fun w a hs hr => wp_mono (h.h w a hs hr) k

/-! ### Loops -/

/-- What holds at a round's head. -/
def Head {γ : Type} (w0 : World) (nt : Nat) (E : γ → Env) (H : γ → List HP) (C : γ → Prop) (a : Act) (w : World) (g : γ) : Prop := C g ∧ Sat w0 w (H g) ∧ Rel nt (E g) a

def Back {γ : Type} (w0 : World) (nt : Nat) (m : γ → Nat) (E : γ → Env) (H : γ → List HP) (C : γ → Prop) (g : γ) (a : Act) (w : World) : Prop := ∃ g', m g' < m g ∧ Head w0 nt E H C a w g'

theorem sw_loop {γ : Type} {body : Code} (m : γ → Nat) (E : γ → Env) (H : γ → List HP) (C : γ → Prop) (g0 : γ) (hC : C g0) (hE : subE (E g0) env) (hH : Ent L (H g0))
    (step : ∀ g, C g → SW P w0 nt (H g) (E g) body (Exit.then (Back w0 nt m E H C g) Q)) : SW P w0 nt L env (.loop body) Q := .mk fun w a hs hr => by
  refine wp_loop_ghost (fun n a w => ∃ g, m g = n ∧ Head w0 nt E H C a w g) (m g0) ⟨g0, rfl, hC, hs.ent hH, hr.sub hE⟩ ?_
  rintro n a w ⟨g, rfl, h1, h2, h3⟩
  refine wp_mono ((step g h1).h w a h2 h3) fun e a' w' hq => ?_
  cases e with
  | normal => obtain ⟨g', hlt, hh⟩ := hq; exact ⟨m g', hlt, g', rfl, hh⟩
  | _ => exact hq

theorem sx_back {γ : Type} {m : γ → Nat} {E : γ → Env} {H : γ → List HP} {C : γ → Prop} {g : γ} (g' : γ) (hm : m g' < m g) (hC : C g') (hE : subE (E g') env) (hH : Ent L (H g')) :
    SX w0 nt L env .normal (Exit.then (Back w0 nt m E H C g) Q) := .mk fun _ _ hs hr => ⟨g', hm, hC, hs.ent hH, hr.sub hE⟩

/-! ### A list of operations, in the text's order -/

variable {ops : Array Oper} {rest : List Oper} {dst : Option Tmp} {op : Op} {ty : TypeId} {pos : String} {after : Array Edge}

theorem swl_nil (h : SX w0 nt L env .normal Q) : SWL P w0 nt L env ops [] Q := .mk fun w a hs hr => h.h w a hs hr

theorem swl_r {v : Value} (h : OpR P w0 nt L env op ty v) (hd : dstOk nt dst = true) (k : SWL P w0 nt L (putE env dst v) ops rest Q) :
    SWL P w0 nt L env ops (⟨dst, op, ty, pos, after, none⟩ :: rest) Q := .mk fun w a hs hr => by
  unfold wpList
  rw [if_pos (by simp [Region.wanted])]
  refine .inl ?_
  rw [Oper.wp, h.h _ rfl rfl a hr w hs]
  exact k.h w _ hs (hr.put hd v)

theorem swl_w {K : Value → List HP → Prop} (h : OpW P w0 nt L env op ty K) (hd : dstOk nt dst = true) (k : ∀ v L', K v L' → SWL P w0 nt L' (putE env dst v) ops rest Q) :
    SWL P w0 nt L env ops (⟨dst, op, ty, pos, after, none⟩ :: rest) Q := .mk fun w a hs hr => by
  unfold wpList
  rw [if_pos (by simp [Region.wanted])]
  refine .inl ?_
  obtain ⟨v, w', L', h1, h2, h3⟩ := h.h ⟨dst, op, ty, pos, after, none⟩ rfl rfl a hr w hs
  rcases h1 with h1 | ⟨rfl, h1⟩ <;> rw [Oper.wp, h1] <;> exact (k _ L' h3).h w' _ h2 (hr.put hd _)

theorem swl_c {K : Value → List HP → Prop} (h : OpC P w0 nt L env op ty K) (hd : dstOk nt dst = true) (k : ∀ v L', K v L' → SWL P w0 nt L' (putE env dst v) ops rest Q) :
    SWL P w0 nt L env ops (⟨dst, op, ty, pos, after, none⟩ :: rest) Q := .mk fun w a hs hr => by
  unfold wpList
  rw [if_pos (by simp [Region.wanted])]
  refine .inl ?_
  obtain ⟨f, args, h1, h2⟩ := h.h ⟨dst, op, ty, pos, after, none⟩ rfl rfl a hr w hs
  rw [Oper.wp, h1]
  exact Calls.mono h2 fun e w' ⟨v, L', he, h3, h4⟩ => by subst he; exact (k v L' h4).h w' _ h3 (hr.put hd v)

theorem yielded_of {nt : Nat} {env : Env} {a : Act} (hr : Rel nt env a) {ops : Array Oper} {j d : Nat} {b : Bool} (hj : (ops[j]?).bind (·.dst) = some d) (hb : env.get d = some (.bool b)) :
    yielded ops a.tmps j = some b := by
  unfold yielded
  rw [hj]
  simp [hr.get d _ hb]

theorem swl_g_on {j d : Nat} {want : Bool} (hj : (ops[j]?).bind (·.dst) = some d) (hb : env.get d = some (.bool want))
    (k : SWL P w0 nt L env ops (⟨dst, op, ty, pos, after, none⟩ :: rest) Q) : SWL P w0 nt L env ops (⟨dst, op, ty, pos, after, some (j, want)⟩ :: rest) Q := .mk fun w a hs hr => by
  have := k.h w a hs hr
  unfold wpList at this ⊢
  rw [if_pos (by simp [Region.wanted])] at this
  rw [if_pos (by simp [Region.wanted, yielded_of hr hj hb])]
  exact this

theorem swl_g_off {j d : Nat} {want b : Bool} (hj : (ops[j]?).bind (·.dst) = some d) (hb : env.get d = some (.bool b)) (hne : (b == want) = false) (hd : dstOk nt dst = true)
    (k : SWL P w0 nt L (putE env dst undef) ops rest Q) : SWL P w0 nt L env ops (⟨dst, op, ty, pos, after, some (j, want)⟩ :: rest) Q := .mk fun w a hs hr => by
  unfold wpList
  rw [if_neg (by simp [Region.wanted, yielded_of hr hj hb]; simpa using hne)]
  exact k.h w _ hs (hr.put hd _)

theorem yielded_un {nt : Nat} {env : Env} {a : Act} (hr : Rel nt env a) {ops : Array Oper} {j d : Nat} (hj : (ops[j]?).bind (·.dst) = some d) (hb : env.get d = some undef) :
    yielded ops a.tmps j = none := by
  unfold yielded
  rw [hj]
  simp [hr.get d _ hb, undef]
theorem swl_g_un {j d : Nat} {want : Bool} (hj : (ops[j]?).bind (·.dst) = some d) (hb : env.get d = some undef) (hd : dstOk nt dst = true)
    (k : SWL P w0 nt L (putE env dst undef) ops rest Q) : SWL P w0 nt L env ops (⟨dst, op, ty, pos, after, some (j, want)⟩ :: rest) Q := .mk fun w a hs hr => by
  unfold wpList
  rw [if_neg (by simp [Region.wanted, yielded_un hr hj hb])]
  exact k.h w _ hs (hr.put hd _)

theorem get_over {env : Env} {d : Nat} {v : Value} (hb : env.get d = some v) : subE ((d, v) :: env) env := fun t x hx => by
  simp only [Env.get] at hx
  by_cases e : d = t
  · subst e; simp at hx; rw [← hx]; exact hb
  · have : Nat.beq d t = false := nbeq_ne e
    simp [this] at hx; exact hx

/-- Part on a test that a guard asks. -/
theorem swl_g_dec {j d : Nat} {want : Bool} {p : Prop} [Decidable p] (hj : (ops[j]?).bind (·.dst) = some d) (hb : env.get d = some (.bool (decide p)))
    (ht : p → SWL P w0 nt L ((d, .bool true) :: env) ops (⟨dst, op, ty, pos, after, some (j, want)⟩ :: rest) Q)
    (hf : ¬ p → SWL P w0 nt L ((d, .bool false) :: env) ops (⟨dst, op, ty, pos, after, some (j, want)⟩ :: rest) Q) :
    SWL P w0 nt L env ops (⟨dst, op, ty, pos, after, some (j, want)⟩ :: rest) Q := .mk fun w a hs hr => by
  have _ := hj
  by_cases hp : p
  · have hb' : env.get d = some (.bool true) := by simpa [hp] using hb
    exact (ht hp).h w a hs (hr.sub (get_over hb'))
  · have hb' : env.get d = some (.bool false) := by simpa [hp] using hb
    exact (hf hp).h w a hs (hr.sub (get_over hb'))

theorem swl_g_ndec {j d : Nat} {want : Bool} {p : Prop} [Decidable p] (hj : (ops[j]?).bind (·.dst) = some d) (hb : env.get d = some (.bool (!decide p)))
    (ht : ¬ p → SWL P w0 nt L ((d, .bool true) :: env) ops (⟨dst, op, ty, pos, after, some (j, want)⟩ :: rest) Q)
    (hf : p → SWL P w0 nt L ((d, .bool false) :: env) ops (⟨dst, op, ty, pos, after, some (j, want)⟩ :: rest) Q) :
    SWL P w0 nt L env ops (⟨dst, op, ty, pos, after, some (j, want)⟩ :: rest) Q := .mk fun w a hs hr => by
  have _ := hj
  by_cases hp : p
  · have hb' : env.get d = some (.bool false) := by simpa [hp] using hb
    exact (hf hp).h w a hs (hr.sub (get_over hb'))
  · have hb' : env.get d = some (.bool true) := by simpa [hp] using hb
    exact (ht hp).h w a hs (hr.sub (get_over hb'))

theorem swl_g_bool {j d : Nat} {want t : Bool} (hj : (ops[j]?).bind (·.dst) = some d) (hb : env.get d = some (.bool t))
    (ht : t = true → SWL P w0 nt L ((d, .bool true) :: env) ops (⟨dst, op, ty, pos, after, some (j, want)⟩ :: rest) Q)
    (hf : t = false → SWL P w0 nt L ((d, .bool false) :: env) ops (⟨dst, op, ty, pos, after, some (j, want)⟩ :: rest) Q) :
    SWL P w0 nt L env ops (⟨dst, op, ty, pos, after, some (j, want)⟩ :: rest) Q := .mk fun w a hs hr => by
  have _ := hj
  cases t
  · exact (hf rfl).h w a hs (hr.sub (get_over hb))
  · exact (ht rfl).h w a hs (hr.sub (get_over hb))

/-! ### A region that draws its order -/

/-- What a panic's end says does not hang on a temporary. -/
class PanicOK (Q : Exit → Act → World → Prop) : Prop where
  h : ∀ c a dst v w, Q (.panic c) (a.put dst v) w → Q (.panic c) a w

instance PanicOK.then {K : Act → World → Prop} {Q : Exit → Act → World → Prop} [h : PanicOK Q] : PanicOK (Exit.then K Q) := ⟨fun c a dst v w H => h.h c a dst v w H⟩
instance PanicOK.inBlock {id : Nat} {Q : Exit → Act → World → Prop} [h : PanicOK Q] : PanicOK (Exit.inBlock id Q) := ⟨fun c a dst v w H => h.h c a dst v w H⟩
instance PanicOK.body {fn : Func} {R : Ending → World → Prop} : PanicOK (bodyPost P fn R) := ⟨fun c a dst v w H => by
  obtain ⟨h1, h2⟩ := H
  refine ⟨?_, h2⟩
  cases dst <;> exact h1⟩

def hOK (ops : Array Oper) : Array Bool → List (Nat × Bool) → Bool
  | listed, [] => (Region.ready .any ops listed).isEmpty
  | listed, (i, true) :: r => Region.free .any ops listed i && (Region.ready .any ops listed).contains i && hOK ops (listed.setIfInBounds i true) r
  | listed, (i, false) :: r => Region.ready .any ops listed == [i] && hOK ops (listed.setIfInBounds i true) r

structure SWH (P : Program) (w0 : World) (nt : Nat) (Lr L : List HP) (env : Env) (ops : Array Oper) (listed : Array Bool) (order : List (Nat × Bool)) (Q : Exit → Act → World → Prop) : Prop where
  h : hOK ops listed order = true → Region.noSelect ops = true → Ent L Lr → ∀ w a, Sat w0 w L → Rel nt env a → wpAnyH P .any ops Q (fun w => Sat w0 w Lr) order.length listed a w

variable {Lr : List HP} {listed : Array Bool} {order : List (Nat × Bool)} {i : Nat}

theorem sw_region_draw {id : Nat} {l : List Oper} (Lr : List HP) (order : List (Nat × Bool)) (hm : P.follows .mixedOrders = true) (hlen : l.length = order.length)
    (hok : (Region.noSelect l.toArray && hOK l.toArray (Array.replicate l.toArray.size false) order) = true) (he : Ent L Lr)
    (h : SWH P w0 nt Lr L env l.toArray (Array.replicate l.toArray.size false) order Q) : SW P w0 nt L env (.region id l.toArray true) Q := .mk fun w a hs hr => by
  simp only [Bool.and_eq_true] at hok
  refine wp_region_held (S := fun w => Sat w0 w Lr) hm ?_
  have := h.h hok.2 hok.1 he w.drew a hs.drew hr
  rw [← hlen] at this
  simpa using this

theorem sw_draw {id : Nat} {l : List Oper} (order : List (Nat × Bool)) (hm : P.follows .mixedOrders = true) (hlen : l.length = order.length)
    (hok : (Region.noSelect l.toArray && hOK l.toArray (Array.replicate l.toArray.size false) order) = true)
    (h : SWH P w0 nt L L env l.toArray (Array.replicate l.toArray.size false) order Q) : SW P w0 nt L env (.region id l.toArray true) Q := sw_region_draw L order hm hlen hok (Ent.refl L) h

theorem swh_nil (h : SX w0 nt L env .normal Q) : SWH P w0 nt Lr L env ops listed [] Q := .mk fun hok _ _ w a hs hr =>
  wpAnyH_done (by simpa [hOK] using hok) (h.h w a hs hr) _

/-- A light one. -/
theorem swh_r [hp : PanicOK Q] {v : Value} {g : Option (Nat × Bool)} (hi : ops[i]? = some ⟨dst, op, ty, pos, after, g⟩)
    (hg : ∀ a, Rel nt env a → Region.wanted ⟨dst, op, ty, pos, after, g⟩ (yielded ops a.tmps) = true)
    (h : OpR P w0 nt Lr env op ty v) (hd : dstOk nt dst = true) (k : SWH P w0 nt Lr L (putE env dst v) ops (listed.setIfInBounds i true) order Q) :
    SWH P w0 nt Lr L env ops listed ((i, true) :: order) Q := .mk fun hok hs he w a hw hr => by
  simp only [hOK, Bool.and_eq_true] at hok
  refine wpAnyH_take hi hs hok.1.1 hok.1.2 (fun c a w => hp.h c a _ _ w) (v := v) (.inl ⟨hg a hr, fun w' hw' => h.h _ rfl rfl a hr w' hw'⟩) (hw.ent he) ?_
  exact k.h hok.2 hs he w _ hw (hr.put hd v)

/-- One that is not wanted. -/
theorem swh_off [hp : PanicOK Q] {j d : Nat} {want b : Bool} (hi : ops[i]? = some ⟨dst, op, ty, pos, after, some (j, want)⟩) (hj : (ops[j]?).bind (·.dst) = some d) (hb : env.get d = some (.bool b)) (hne : (b == want) = false)
    (hd : dstOk nt dst = true) (k : SWH P w0 nt Lr L (putE env dst undef) ops (listed.setIfInBounds i true) order Q) :
    SWH P w0 nt Lr L env ops listed ((i, true) :: order) Q := .mk fun hok hs he w a hw hr => by
  simp only [hOK, Bool.and_eq_true] at hok
  refine wpAnyH_take hi hs hok.1.1 hok.1.2 (fun c a w => hp.h c a _ _ w) (v := undef) (.inr ⟨?_, rfl⟩) (hw.ent he) ?_
  · simp [Region.wanted, yielded_of hr hj hb]; simpa using hne
  · exact k.h hok.2 hs he w _ hw (hr.put hd _)

theorem swh_un [hp : PanicOK Q] {j d : Nat} {want : Bool} (hi : ops[i]? = some ⟨dst, op, ty, pos, after, some (j, want)⟩) (hj : (ops[j]?).bind (·.dst) = some d) (hb : env.get d = some undef)
    (hd : dstOk nt dst = true) (k : SWH P w0 nt Lr L (putE env dst undef) ops (listed.setIfInBounds i true) order Q) :
    SWH P w0 nt Lr L env ops listed ((i, true) :: order) Q := .mk fun hok hs he w a hw hr => by
  simp only [hOK, Bool.and_eq_true] at hok
  refine wpAnyH_take hi hs hok.1.1 hok.1.2 (fun c a w => hp.h c a _ _ w) (v := undef) (.inr ⟨?_, rfl⟩) (hw.ent he) ?_
  · simp [Region.wanted, yielded_un hr hj hb]
  · exact k.h hok.2 hs he w _ hw (hr.put hd _)

theorem swh_heavy_un {j d : Nat} {want : Bool} (hi : ops[i]? = some ⟨dst, op, ty, pos, after, some (j, want)⟩) (hj : (ops[j]?).bind (·.dst) = some d) (hb : env.get d = some undef)
    (hd : dstOk nt dst = true) (k : SWH P w0 nt Lr L (putE env dst undef) ops (listed.setIfInBounds i true) order Q) :
    SWH P w0 nt Lr L env ops listed ((i, false) :: order) Q := .mk fun hok hs he w a hw hr => by
  simp only [hOK, Bool.and_eq_true, beq_iff_eq] at hok
  refine wpAnyH_all hok.1 (by simp) fun i' hi' => ?_
  obtain rfl : i' = i := by simpa using hi'
  unfold wpOp
  simp only [hi]
  rw [if_neg (by simp [Region.wanted, yielded_un hr hj hb])]
  exact ⟨hw.ent he, k.h hok.2 hs he w _ hw (hr.put hd _)⟩

theorem swh_heavy_off {j d : Nat} {want b : Bool} (hi : ops[i]? = some ⟨dst, op, ty, pos, after, some (j, want)⟩) (hj : (ops[j]?).bind (·.dst) = some d) (hb : env.get d = some (.bool b)) (hne : (b == want) = false)
    (hd : dstOk nt dst = true) (k : SWH P w0 nt Lr L (putE env dst undef) ops (listed.setIfInBounds i true) order Q) :
    SWH P w0 nt Lr L env ops listed ((i, false) :: order) Q := .mk fun hok hs he w a hw hr => by
  simp only [hOK, Bool.and_eq_true, beq_iff_eq] at hok
  refine wpAnyH_all hok.1 (by simp) fun i' hi' => ?_
  obtain rfl : i' = i := by simpa using hi'
  unfold wpOp
  simp only [hi]
  rw [if_neg (by simp [Region.wanted, yielded_of hr hj hb]; simpa using hne)]
  exact ⟨hw.ent he, k.h hok.2 hs he w _ hw (hr.put hd _)⟩

theorem swh_heavy {g : Option (Nat × Bool)} (hi : ops[i]? = some ⟨dst, op, ty, pos, after, g⟩)
    (hg : ∀ a, Rel nt env a → Region.wanted ⟨dst, op, ty, pos, after, g⟩ (yielded ops a.tmps) = true)
    (h : ∀ a w, Rel nt env a → Sat w0 w L → Oper.wp P ⟨dst, op, ty, pos, after, g⟩ a w (fun a' w' => ∃ env' L', Sat w0 w' L' ∧ Rel nt env' a' ∧ Ent L' Lr ∧ SWH P w0 nt Lr L' env' ops (listed.setIfInBounds i true) order Q) Q) :
    SWH P w0 nt Lr L env ops listed ((i, false) :: order) Q := .mk fun hok hs he w a hw hr => by
  simp only [hOK, Bool.and_eq_true, beq_iff_eq] at hok
  refine wpAnyH_all hok.1 (by simp) fun i' hi' => ?_
  obtain rfl : i' = i := by simpa using hi'
  unfold wpOp
  simp only [hi]
  rw [if_pos (hg a hr)]
  refine .inl (Oper.wp_mono ?_ (h a w hr hw))
  rintro a' w' ⟨env', L', h1, h2, h3, h4⟩
  exact ⟨h1.ent h3, h4.h hok.2 hs h3 w' a' h1 h2⟩

theorem swh_hr {v : Value} {g : Option (Nat × Bool)} (hi : ops[i]? = some ⟨dst, op, ty, pos, after, g⟩)
    (hg : ∀ a, Rel nt env a → Region.wanted ⟨dst, op, ty, pos, after, g⟩ (yielded ops a.tmps) = true)
    (h : OpR P w0 nt L env op ty v) (hd : dstOk nt dst = true) (he : Ent L Lr) (k : SWH P w0 nt Lr L (putE env dst v) ops (listed.setIfInBounds i true) order Q) :
    SWH P w0 nt Lr L env ops listed ((i, false) :: order) Q := swh_heavy hi hg fun a w hr hs => by
  rw [Oper.wp, h.h _ rfl rfl a hr w hs]
  exact ⟨_, _, hs, hr.put hd v, he, k⟩

theorem swh_w {K : Value → List HP → Prop} {g : Option (Nat × Bool)} (hi : ops[i]? = some ⟨dst, op, ty, pos, after, g⟩)
    (hg : ∀ a, Rel nt env a → Region.wanted ⟨dst, op, ty, pos, after, g⟩ (yielded ops a.tmps) = true)
    (h : OpW P w0 nt L env op ty K) (hd : dstOk nt dst = true) (k : ∀ v L', K v L' → Ent L' Lr ∧ SWH P w0 nt Lr L' (putE env dst v) ops (listed.setIfInBounds i true) order Q) :
    SWH P w0 nt Lr L env ops listed ((i, false) :: order) Q := swh_heavy hi hg fun a w hr hs => by
  obtain ⟨v, w', L', h1, h2, h3⟩ := h.h ⟨dst, op, ty, pos, after, g⟩ rfl rfl a hr w hs
  obtain ⟨h4, h5⟩ := k v L' h3
  rcases h1 with h1 | ⟨rfl, h1⟩ <;> rw [Oper.wp, h1] <;> exact ⟨_, L', h2, hr.put hd _, h4, h5⟩

theorem swh_c {K : Value → List HP → Prop} {g : Option (Nat × Bool)} (hi : ops[i]? = some ⟨dst, op, ty, pos, after, g⟩)
    (hg : ∀ a, Rel nt env a → Region.wanted ⟨dst, op, ty, pos, after, g⟩ (yielded ops a.tmps) = true)
    (h : OpC P w0 nt L env op ty K) (hd : dstOk nt dst = true) (k : ∀ v L', K v L' → Ent L' Lr ∧ SWH P w0 nt Lr L' (putE env dst v) ops (listed.setIfInBounds i true) order Q) :
    SWH P w0 nt Lr L env ops listed ((i, false) :: order) Q := swh_heavy hi hg fun a w hr hs => by
  obtain ⟨f, args, h1, h2⟩ := h.h ⟨dst, op, ty, pos, after, g⟩ rfl rfl a hr w hs
  rw [Oper.wp, h1]
  refine Calls.mono h2 fun e w' ⟨v, L', he, h3, h4⟩ => ?_
  subst he
  obtain ⟨h5, h6⟩ := k v L' h4
  exact ⟨_, L', h3, hr.put hd v, h5, h6⟩

theorem wanted_none {a : Act} : Region.wanted ⟨dst, op, ty, pos, after, none⟩ (yielded ops a.tmps) = true := by simp [Region.wanted]
theorem wanted_on {j d : Nat} {want : Bool} (hj : (ops[j]?).bind (·.dst) = some d) (hb : env.get d = some (.bool want)) (a : Act) (hr : Rel nt env a) :
    Region.wanted ⟨dst, op, ty, pos, after, some (j, want)⟩ (yielded ops a.tmps) = true := by simp [Region.wanted, yielded_of hr hj hb]

theorem swh_split {d : Nat} {p : Prop} [Decidable p] (hb : env.get d = some (.bool (decide p))) (ht : p → SWH P w0 nt Lr L ((d, .bool true) :: env) ops listed order Q)
    (hf : ¬ p → SWH P w0 nt Lr L ((d, .bool false) :: env) ops listed order Q) : SWH P w0 nt Lr L env ops listed order Q := .mk fun hok hs he w a hw hr => by
  by_cases hp : p
  · exact (ht hp).h hok hs he w a hw (hr.sub (get_over (by simpa [hp] using hb)))
  · exact (hf hp).h hok hs he w a hw (hr.sub (get_over (by simpa [hp] using hb)))
theorem swh_splitn {d : Nat} {p : Prop} [Decidable p] (hb : env.get d = some (.bool (!decide p))) (ht : ¬ p → SWH P w0 nt Lr L ((d, .bool true) :: env) ops listed order Q)
    (hf : p → SWH P w0 nt Lr L ((d, .bool false) :: env) ops listed order Q) : SWH P w0 nt Lr L env ops listed order Q := .mk fun hok hs he w a hw hr => by
  by_cases hp : p
  · exact (hf hp).h hok hs he w a hw (hr.sub (get_over (by simpa [hp] using hb)))
  · exact (ht hp).h hok hs he w a hw (hr.sub (get_over (by simpa [hp] using hb)))
theorem swh_splitb {d : Nat} {t : Bool} (hb : env.get d = some (.bool t)) (ht : t = true → SWH P w0 nt Lr L ((d, .bool true) :: env) ops listed order Q)
    (hf : t = false → SWH P w0 nt Lr L ((d, .bool false) :: env) ops listed order Q) : SWH P w0 nt Lr L env ops listed order Q := .mk fun hok hs he w a hw hr => by
  cases t
  · exact (hf rfl).h hok hs he w a hw (hr.sub (get_over hb))
  · exact (ht rfl).h hok hs he w a hw (hr.sub (get_over hb))

/-! ### One operation of either kind of list -/

/-- The operation may be gone, reading Lr, with L at hand; behind it N holds. -/
inductive S1 (P : Program) (w0 : World) (nt : Nat) (Lr L : List HP) (env : Env) (op : Op) (ty : TypeId) (dst : Option Tmp) (heavy : Bool) (N : Env → List HP → Prop) : Prop
  | r {v : Value} (h : OpR P w0 nt Lr env op ty v) (hd : dstOk nt dst = true) (k : N (putE env dst v) L) : S1 P w0 nt Lr L env op ty dst heavy N
  | w {K : Value → List HP → Prop} (hh : heavy = true) (h : OpW P w0 nt L env op ty K) (hd : dstOk nt dst = true) (k : ∀ v L', K v L' → N (putE env dst v) L') : S1 P w0 nt Lr L env op ty dst heavy N
  | c {K : Value → List HP → Prop} (hh : heavy = true) (h : OpC P w0 nt L env op ty K) (hd : dstOk nt dst = true) (k : ∀ v L', K v L' → N (putE env dst v) L') : S1 P w0 nt Lr L env op ty dst heavy N

theorem swl_op (h : S1 P w0 nt L L env op ty dst true (fun env' L' => SWL P w0 nt L' env' ops rest Q)) : SWL P w0 nt L env ops (⟨dst, op, ty, pos, after, none⟩ :: rest) Q := by
  cases h with
  | r h hd k => exact swl_r h hd k
  | w _ h hd k => exact swl_w h hd k
  | c _ h hd k => exact swl_c h hd k

theorem swh_lt [PanicOK Q] {g : Option (Nat × Bool)} (hi : ops[i]? = some ⟨dst, op, ty, pos, after, g⟩)
    (hg : ∀ a, Rel nt env a → Region.wanted ⟨dst, op, ty, pos, after, g⟩ (yielded ops a.tmps) = true)
    (h : S1 P w0 nt Lr L env op ty dst false (fun env' L' => SWH P w0 nt Lr L' env' ops (listed.setIfInBounds i true) order Q)) : SWH P w0 nt Lr L env ops listed ((i, true) :: order) Q := by
  cases h with
  | r h hd k => exact swh_r hi hg h hd k
  | w hh => cases hh
  | c hh => cases hh

theorem swh_hv {g : Option (Nat × Bool)} (hi : ops[i]? = some ⟨dst, op, ty, pos, after, g⟩)
    (hg : ∀ a, Rel nt env a → Region.wanted ⟨dst, op, ty, pos, after, g⟩ (yielded ops a.tmps) = true)
    (h : S1 P w0 nt L L env op ty dst true (fun env' L' => Ent L' Lr ∧ SWH P w0 nt Lr L' env' ops (listed.setIfInBounds i true) order Q)) : SWH P w0 nt Lr L env ops listed ((i, false) :: order) Q := by
  cases h with
  | r h hd k => exact swh_hr hi hg h hd k.1 k.2
  | w _ h hd k => exact swh_w hi hg h hd k
  | c _ h hd k => exact swh_c hi hg h hd k

theorem s1_c {heavy : Bool} {N : Env → List HP → Prop} {K : Value → List HP → Prop} (h : OpC P w0 nt L env op ty K) (hh : heavy = true) (hd : dstOk nt dst = true) (k : ∀ v L', K v L' → N (putE env dst v) L') :
    S1 P w0 nt Lr L env op ty dst heavy N := .c hh h hd k

/-- the same, marked with the operation's kind: so that a walk tries few laws at each -/
structure SC (P : Program) (w0 : World) (nt : Nat) (Lr L : List HP) (env : Env) (op : Op) (ty : TypeId) (dst : Option Tmp) (heavy : Bool) (N : Env → List HP → Prop) : Prop where
  h : S1 P w0 nt Lr L env op ty dst heavy N
section
variable {heavy : Bool} {N : Env → List HP → Prop}
theorem sc_r {v : Value} (h : OpR P w0 nt Lr env op ty v) (hd : dstOk nt dst = true) (k : N (putE env dst v) L) : SC P w0 nt Lr L env op ty dst heavy N := ⟨.r h hd k⟩
theorem sc_w {K : Value → List HP → Prop} (hh : heavy = true) (h : OpW P w0 nt L env op ty K) (hd : dstOk nt dst = true) (k : ∀ v L', K v L' → N (putE env dst v) L') : SC P w0 nt Lr L env op ty dst heavy N := ⟨.w hh h hd k⟩
theorem sc_c {K : Value → List HP → Prop} (hh : heavy = true) (h : OpC P w0 nt L env op ty K) (hd : dstOk nt dst = true) (k : ∀ v L', K v L' → N (putE env dst v) L') : SC P w0 nt Lr L env op ty dst heavy N := ⟨.c hh h hd k⟩
theorem s1_move {x : Operand} (h : SC P w0 nt Lr L env (.move x) ty dst heavy N) : S1 P w0 nt Lr L env (.move x) ty dst heavy N := h.h
theorem s1_assign {x : Operand} (h : SC P w0 nt Lr L env (.assign x) ty dst heavy N) : S1 P w0 nt Lr L env (.assign x) ty dst heavy N := h.h
theorem s1_pick {x y z : Operand} (h : SC P w0 nt Lr L env (.pick x y z) ty dst heavy N) : S1 P w0 nt Lr L env (.pick x y z) ty dst heavy N := h.h
theorem s1_load {t : TypeId} {x : Operand} (h : SC P w0 nt Lr L env (.load t x) ty dst heavy N) : S1 P w0 nt Lr L env (.load t x) ty dst heavy N := h.h
theorem s1_store {t : TypeId} {x y : Operand} (h : SC P w0 nt Lr L env (.store t x y) ty dst heavy N) : S1 P w0 nt Lr L env (.store t x y) ty dst heavy N := h.h
theorem s1_fieldAddr {t : TypeId} {x : Operand} {k : Nat} (h : SC P w0 nt Lr L env (.fieldAddr t x k) ty dst heavy N) : S1 P w0 nt Lr L env (.fieldAddr t x k) ty dst heavy N := h.h
theorem s1_indexAddr {t : TypeId} {x y : Operand} (h : SC P w0 nt Lr L env (.indexAddr t x y) ty dst heavy N) : S1 P w0 nt Lr L env (.indexAddr t x y) ty dst heavy N := h.h
theorem s1_bin {o : BinOp} {t t' : TypeId} {x y : Operand} (h : SC P w0 nt Lr L env (.binOp o t x y t') ty dst heavy N) : S1 P w0 nt Lr L env (.binOp o t x y t') ty dst heavy N := h.h
theorem s1_call {c : Call} (h : SC P w0 nt Lr L env (.call c) ty dst heavy N) : S1 P w0 nt Lr L env (.call c) ty dst heavy N := h.h
theorem s1_conv {t t' : TypeId} {x : Operand} (h : SC P w0 nt Lr L env (.convert t t' x) ty dst heavy N) : S1 P w0 nt Lr L env (.convert t t' x) ty dst heavy N := h.h
theorem s1_slice {t : TypeId} {x : Operand} {lo hi mx : Option Operand} (h : SC P w0 nt Lr L env (.slice t x lo hi mx) ty dst heavy N) : S1 P w0 nt Lr L env (.slice t x lo hi mx) ty dst heavy N := h.h
theorem s1_alloc {t : TypeId} (h : SC P w0 nt Lr L env (.alloc t) ty dst heavy N) : S1 P w0 nt Lr L env (.alloc t) ty dst heavy N := h.h
theorem s1_box {t : TypeId} {x : Operand} (h : SC P w0 nt Lr L env (.box t x) ty dst heavy N) : S1 P w0 nt Lr L env (.box t x) ty dst heavy N := h.h
/-- any other -/
theorem s1_any (h : SC P w0 nt Lr L env op ty dst heavy N) : S1 P w0 nt Lr L env op ty dst heavy N := h.h
end

/-! ### A function's beginning and end -/

/-- What stands behind a function's body. -/
def FQ (P : Program) (w0 : World) (fn : Func) (R : Value → List HP → Prop) : Exit → Act → World → Prop :=
  bodyPost P fn fun e w' => ∃ v L', e = .returned v ∧ Sat w0 w' L' ∧ R v L'

instance PanicOK.fq {fn : Func} {R : Value → List HP → Prop} : PanicOK (FQ P w0 fn R) := PanicOK.body

def argsE : Nat → List Value → Env
  | _, [] => []
  | n, v :: l => (n, v) :: argsE (n + 1) l

theorem argsE_get : ∀ (l : List Value) (n t : Nat) (v : Value), (argsE n l).get t = some v → n ≤ t ∧ l[t - n]? = some v
  | [], _, _, _, h => by simp [argsE, Env.get] at h
  | u :: l, n, t, v, h => by
    simp only [argsE, Env.get] at h
    by_cases e : n = t
    · subst e; simp at h; simp [h]
    · have : Nat.beq n t = false := nbeq_ne e
      simp [this] at h
      obtain ⟨h1, h2⟩ := argsE_get l (n + 1) t v h
      refine ⟨by omega, ?_⟩
      rw [show t - n = (t - (n + 1)) + 1 by omega]
      simpa using h2

theorem tr_enter {f : FuncId} {fn : Func} {c : Code} {args : List Value} {R : Value → List HP → Prop} (hf : P.funcs[f]? = some fn) (hb : fn.body = some c) (hn : fn.ntmps = nt) (hle : Nat.ble args.length nt = true)
    (h : ∀ w0, SW P w0 nt L (argsE 0 args) c (FQ P w0 fn R)) : Tr P f args.toArray L R := .mk fun w0 w hs => by
  have hle' : args.length ≤ nt := by simpa using hle
  refine calls_of_wp hf hb ((h w0).h w _ hs ⟨rfl, by simp [hn]; omega, fun t v hv => ?_⟩)
  obtain ⟨_, h2⟩ := argsE_get args 0 t v hv
  have hlt : t < args.length := by
    rcases Nat.lt_or_ge t args.length with h' | h'
    · exact h'
    · simp [List.getElem?_eq_none h'] at h2
  rw [Array.getElem?_append_left (by simpa using hlt)]
  simpa using h2

def resSem (tmps : Array Value) : ResultVar → Sem Value
  | .tmp t => pure (tmps.getD t undef)
  | .cell a t => do loadVar t (← asAddr (tmps.getD a undef))

theorem results_eq (fn : Func) (tmps : Array Value) : results fn tmps = (do let vs ← fn.results.mapM (resSem tmps); pure (if h : vs.size = 1 then vs[0] else .tuple vs)) := rfl

/-- One result. -/
structure ResOne (P : Program) (w0 : World) (nt : Nat) (L : List HP) (env : Env) (r : ResultVar) (v : Value) : Prop where
  h : ∀ a w, Rel nt env a → Sat w0 w L → (resSem a.tmps r).run P w = .ok v w

theorem ResOne.tmp {t : Nat} {v : Value} (h : env.get t = some v) : ResOne P w0 nt L env (.tmp t) v := .mk fun a w hr _ => by
  simp [resSem, Array.getD_eq_getD_getElem?, hr.get t v h]

theorem sx_ret_of {fn : Func} {R : Value → List HP → Prop} {v : Value} (hres : ∀ a w, Rel nt env a → Sat w0 w L → (results fn a.tmps).run P w = .ok v w) (L' : List HP) (hR : R v L') (he : Ent L L') :
    SX w0 nt L env .ret (FQ P w0 fn R) := .mk fun w a hs hr => ⟨hr.defers, v, hres a w hr hs, v, L', rfl, hs.ent he, hR⟩
theorem sx_end_of {fn : Func} {R : Value → List HP → Prop} {v : Value} (hres : ∀ a w, Rel nt env a → Sat w0 w L → (results fn a.tmps).run P w = .ok v w) (L' : List HP) (hR : R v L') (he : Ent L L') :
    SX w0 nt L env .normal (FQ P w0 fn R) := .mk fun w a hs hr => ⟨hr.defers, v, hres a w hr hs, v, L', rfl, hs.ent he, hR⟩

theorem res0 {fn : Func} (hf : fn.results = #[]) (a : Act) (w : World) (_ : Rel nt env a) (_ : Sat w0 w L) : (results fn a.tmps).run P w = .ok (.tuple #[]) w := by
  simp [results_eq, hf]
theorem res1 {fn : Func} {r : ResultVar} {v : Value} (hf : fn.results = #[r]) (h : ResOne P w0 nt L env r v) (a : Act) (w : World) (hr : Rel nt env a) (hs : Sat w0 w L) : (results fn a.tmps).run P w = .ok v w := by
  simp [results_eq, hf, h.h a w hr hs]
theorem res2 {fn : Func} {r s : ResultVar} {v u : Value} (hf : fn.results = #[r, s]) (h : ResOne P w0 nt L env r v) (k : ResOne P w0 nt L env s u) (a : Act) (w : World) (hr : Rel nt env a) (hs : Sat w0 w L) :
    (results fn a.tmps).run P w = .ok (.tuple #[v, u]) w := by
  simp [results_eq, hf, h.h a w hr hs, k.h a w hr hs]
theorem res3 {fn : Func} {r s t : ResultVar} {v u x : Value} (hf : fn.results = #[r, s, t]) (h : ResOne P w0 nt L env r v) (k : ResOne P w0 nt L env s u) (k3 : ResOne P w0 nt L env t x) (a : Act) (w : World) (hr : Rel nt env a) (hs : Sat w0 w L) :
    (results fn a.tmps).run P w = .ok (.tuple #[v, u, x]) w := by
  simp [results_eq, hf, h.h a w hr hs, k.h a w hr hs, k3.h a w hr hs]

/-! ### Contracts -/

theorem Tr.weaken {f : FuncId} {args : Array Value} {R R' : Value → List HP → Prop} (h : Tr P f args L R) (k : ∀ v L', R v L' → ∃ L'', Ent L' L'' ∧ R' v L'') : Tr P f args L R' := .mk fun w0 w hs =>
  (h.h w0 w hs).mono fun _ _ ⟨v, L', he, h1, h2⟩ => let ⟨L'', e, h3⟩ := k v L' h2; ⟨v, L'', he, h1.ent e, h3⟩
theorem Tr.ent {f : FuncId} {args : Array Value} {L' : List HP} {R : Value → List HP → Prop} (e : Ent L L') (h : Tr P f args L' R) : Tr P f args L R := .mk fun w0 w hs => h.h w0 w (hs.ent e)

/-- Over all that the world holds: what was there stays. -/
theorem Tr.below {f : FuncId} {args : Array Value} {W : World} {v : Value} (h : Tr P f args [whole W] fun u L' => u = v ∧ L' = [whole W]) :
    Calls P f args W fun e w' => e = .returned v ∧ RowKit.Below W.heap.size W w' :=
  (h.h W W (Sat.start W)).mono fun _ _ ⟨_, _, he, h1, h2, h3⟩ => by subst h2; subst h3; exact ⟨he, h1.below⟩
end
end Go.SL
