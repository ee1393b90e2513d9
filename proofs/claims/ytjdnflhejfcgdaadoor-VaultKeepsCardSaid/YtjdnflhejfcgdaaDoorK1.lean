import Derived.Tactics
import Derived.OrdersHeld
import Derived.Below
import Derived.Deep.LoopGhost
import Derived.TacticsIn
import Derived.RangeFuncRecord
import Derived.Laws.Slices
import Derived.IntWalk
import Derived.Laws.Small
import Derived.Laws.StructEq
import Derived.Laws.Pointers
import Derived.WideLaws
import Derived.Laws.AppendOwn
import Derived.Laws.OwnMore
import Derived.Defers
import Derived.Recover
import Derived.ProofKit
import Derived.OpenShut
import Derived.Deep.Slices
import Derived.Deep.Strs
import Derived.SizedLaws
import Derived.MapKept
import Derived.Laws.MakeOwn
import Derived.Laws.CopyRow
import Derived.Laws.BytesArg

/-
  OWN BASE, PART 1: what a world holds, as a list of parts that lie apart from one another ('Own'), and what of it a run keeps ('Sat').
-/
namespace Go.SL
open Go

abbrev Hp := Nat → Option Obj
abbrev HP := Hp → Prop

/-- h is p and q, apart. -/
def Split (h p q : Hp) : Prop := ∀ b, (p b = h b ∧ q b = none) ∨ (q b = h b ∧ p b = none)

def minus (h p : Hp) : Hp := fun b => if (p b).isSome then none else h b
def plus (p q : Hp) : Hp := fun b => if (p b).isSome then p b else q b

/-- h holds these parts, apart from one another; what is left over is nobody's. -/
def Own : List HP → Hp → Prop
  | [], _ => True
  | P :: L, h => ∃ p q, Split h p q ∧ P p ∧ Own L q

theorem own_mono {L : List HP} : ∀ {q h : Hp}, Own L q → (∀ b, q b ≠ none → h b = q b) → Own L h := by
  induction L with
  | nil => intro _ _ _ _; trivial
  | cons P L ih =>
    rintro q h ⟨p, r, hs, hP, hL⟩ hq
    refine ⟨p, minus h p, fun b => ?_, hP, ih hL fun b hb => ?_⟩
    · have h1 := hs b; have h2 := hq b; unfold minus
      cases hp : p b <;> grind
    · have h1 := hs b; have h2 := hq b; unfold minus
      cases hp : p b <;> grind

theorem own_swap {P Q : HP} {L : List HP} {h : Hp} (H : Own (P :: Q :: L) h) : Own (Q :: P :: L) h := by
  obtain ⟨p, r, h1, hP, q, s, h2, hQ, hL⟩ := H
  refine ⟨q, minus h q, fun b => ?_, hQ, p, s, fun b => ?_, hP, hL⟩
  · have := h1 b; have := h2 b; unfold minus
    cases hq : q b <;> grind
  · have := h1 b; have := h2 b; unfold minus
    cases hq : q b <;> grind

theorem own_cons_imp {P : HP} {L L' : List HP} (hi : ∀ h, Own L h → Own L' h) {h : Hp} (H : Own (P :: L) h) : Own (P :: L') h := by
  obtain ⟨p, q, hs, hP, hL⟩ := H
  exact ⟨p, q, hs, hP, hi _ hL⟩

theorem own_drop {P : HP} {L : List HP} {h : Hp} (H : Own (P :: L) h) : Own L h := by
  obtain ⟨p, q, hs, _, hL⟩ := H
  refine own_mono hL fun b hb => ?_
  have := hs b
  simp_all

theorem own_perm {L L' : List HP} (hp : L.Perm L') : ∀ {h : Hp}, Own L h → Own L' h := by
  induction hp with
  | nil => exact fun H => H
  | cons x _ ih => exact fun H => own_cons_imp (fun _ => ih) H
  | swap x y l => exact fun H => own_swap H
  | trans _ _ ih1 ih2 => exact fun H => ih2 (ih1 H)

/-- From what L says, L' follows. -/
def Ent (L L' : List HP) : Prop := ∀ h, Own L h → Own L' h

theorem Ent.refl (L : List HP) : Ent L L := fun _ H => H
theorem Ent.trans {A B C : List HP} (h : Ent A B) (k : Ent B C) : Ent A C := fun _ H => k _ (h _ H)
theorem Ent.nil {L : List HP} : Ent L [] := fun _ _ => trivial
theorem Ent.drop {P : HP} {L L' : List HP} (h : Ent L L') : Ent (P :: L) L' := fun _ H => h _ (own_drop H)
theorem Ent.cons {P : HP} {L L' : List HP} (h : Ent L L') : Ent (P :: L) (P :: L') := fun _ H => own_cons_imp h H
theorem Ent.imp {P P' : HP} {L L' : List HP} (hp : ∀ h, P h → P' h) (h : Ent L L') : Ent (P :: L) (P' :: L') := fun _ ⟨p, q, hs, hP, hL⟩ => ⟨p, q, hs, hp _ hP, h _ hL⟩
theorem Ent.of_perm {L L' : List HP} (h : L.Perm L') : Ent L L' := fun _ H => own_perm h H

/-- P taken out of L leaves L'. -/
inductive Rem (P : HP) : List HP → List HP → Prop
  | here {L : List HP} : Rem P (P :: L) L
  | there {Q : HP} {L L' : List HP} (h : Rem P L L') : Rem P (Q :: L) (Q :: L')

theorem Rem.ent {P : HP} {L L' : List HP} (h : Rem P L L') : Ent L (P :: L') := by
  induction h with
  | here => exact Ent.refl _
  | there _ ih => exact fun _ H => own_swap (own_cons_imp ih H)

theorem Ent.pick {P : HP} {L L1 L' : List HP} (h : Rem P L L1) (k : Ent L1 L') : Ent L (P :: L') := h.ent.trans (Ent.cons k)

/-- All of A taken out of L, one by one, leave F. -/
inductive Rems : List HP → List HP → List HP → Prop
  | nil {L : List HP} : Rems [] L L
  | cons {P : HP} {A L L1 F : List HP} (h : Rem P L L1) (k : Rems A L1 F) : Rems (P :: A) L F

theorem Rems.ent {A L F : List HP} (h : Rems A L F) : Ent L (A ++ F) := by
  induction h with
  | nil => exact Ent.refl _
  | cons hr _ ih => exact Ent.pick hr ih

/-- Several parts as one. -/
def st (A : List HP) : HP := Own A

theorem Ent.open_st {A L : List HP} : Ent (st A :: L) (A ++ L) := by
  intro h ⟨p, q, hs, hA, hL⟩
  induction A generalizing h p with
  | nil => exact own_mono hL fun b hb => by have := hs b; simp_all
  | cons P A ih =>
    obtain ⟨a, r, h1, hP, hA'⟩ := hA
    refine ⟨a, minus h a, fun b => ?_, hP, ih _ r (fun b => ?_) hA'⟩
    · have := hs b; have := h1 b; unfold minus
      cases ha : a b <;> grind
    · have := hs b; have := h1 b; unfold minus
      cases ha : a b <;> grind

theorem Ent.shut_st {A L : List HP} : Ent (A ++ L) (st A :: L) := by
  intro h H
  induction A generalizing h with
  | nil => exact ⟨fun _ => none, h, fun b => .inr ⟨rfl, rfl⟩, trivial, H⟩
  | cons P A ih =>
    obtain ⟨a, r, h1, hP, hr⟩ := H
    obtain ⟨p, q, h2, hA, hL⟩ := ih r hr
    refine ⟨plus a p, q, fun b => ?_, ⟨a, p, fun b => ?_, hP, hA⟩, hL⟩
    · have := h1 b; have := h2 b; unfold plus
      cases ha : a b <;> grind
    · have := h1 b; have := h2 b; unfold plus
      cases ha : a b <;> grind

/-- Block b is o. -/
def pt (b : Nat) (o : Obj) : HP := fun h => h b = some o
/-- A fact. -/
def fact (φ : Prop) : HP := fun _ => φ
/-- There is one. -/
def ex {α : Type} (p : α → HP) : HP := fun h => ∃ a, p a h
/-- All that a world held. -/
def whole (W : World) : HP := fun h => ∀ b, b < W.heap.size → h b = W.heap[b]?

theorem own_fact {φ : Prop} {L : List HP} {h : Hp} (H : Own (fact φ :: L) h) : φ := by
  obtain ⟨_, _, _, hφ, _⟩ := H; exact hφ
theorem Ent.fact_intro {φ : Prop} {L : List HP} (hφ : φ) : Ent L (fact φ :: L) := fun h H => ⟨fun _ => none, h, fun _ => .inr ⟨rfl, rfl⟩, hφ, H⟩
theorem own_ex {α : Type} {p : α → HP} {L : List HP} {h : Hp} (H : Own (ex p :: L) h) : ∃ a, Own (p a :: L) h := by
  obtain ⟨q, r, hs, ⟨a, ha⟩, hL⟩ := H; exact ⟨a, q, r, hs, ha, hL⟩
theorem Ent.ex_intro {α : Type} {p : α → HP} {L : List HP} (a : α) : Ent (p a :: L) (ex p :: L) := fun _ ⟨q, r, hs, ha, hL⟩ => ⟨q, r, hs, ⟨a, ha⟩, hL⟩

/-- Whatever holds L holds o in block b. -/
def Reads (L : List HP) (b : Nat) (o : Obj) : Prop := ∀ h, Own L h → h b = some o

theorem Reads.here {b : Nat} {o : Obj} {L : List HP} : Reads (pt b o :: L) b o := fun h ⟨p, q, hs, hp, _⟩ => by
  have := hs b; unfold pt at hp; simp_all
theorem Reads.there {b : Nat} {o : Obj} {P : HP} {L : List HP} (H : Reads L b o) : Reads (P :: L) b o := fun h ⟨p, q, hs, _, hL⟩ => by
  have := hs b; have := H q hL; simp_all
theorem Reads.whole {b : Nat} {o : Obj} {W : World} {L : List HP} (hb : W.heap[b]? = some o) : Reads (whole W :: L) b o := fun h ⟨p, q, hs, hp, _⟩ => by
  have hlt : b < W.heap.size := by
    rcases Nat.lt_or_ge b W.heap.size with h' | h'
    · exact h'
    · simp [Array.getElem?_eq_none h'] at hb
  have := hs b; have := hp b hlt; simp_all
theorem Reads.ent {L L' : List HP} {b : Nat} {o : Obj} (h : Ent L L') (H : Reads L' b o) : Reads L b o := fun p hp => H p (h p hp)

/-- In L block b is o; with o' in its place it is L'. -/
def Upd (L : List HP) (b : Nat) (o o' : Obj) (L' : List HP) : Prop := ∀ h, Own L h → h b = some o ∧ Own L' (fun c => if c = b then some o' else h c)

theorem Upd.here {b : Nat} {o o' : Obj} {L : List HP} : Upd (pt b o :: L) b o o' (pt b o' :: L) := fun h H => by
  refine ⟨Reads.here h H, ?_⟩
  obtain ⟨p, q, hs, hp, hL⟩ := H
  refine ⟨fun c => if c = b then some o' else p c, q, fun c => ?_, ?_, hL⟩
  · have := hs c; unfold pt at hp
    by_cases hc : c = b
    · subst hc; left; simp_all
    · simp_all
  · simp [pt]
theorem Upd.there {b : Nat} {o o' : Obj} {P : HP} {L L' : List HP} (H : Upd L b o o' L') : Upd (P :: L) b o o' (P :: L') := fun h ⟨p, q, hs, hP, hL⟩ => by
  obtain ⟨h1, h2⟩ := H q hL
  have hb := hs b
  refine ⟨by simp_all, p, fun c => if c = b then some o' else q c, fun c => ?_, hP, h2⟩
  have := hs c
  by_cases hc : c = b
  · subst hc; right; simp_all
  · simp_all

/-! ### The world -/

structure Sat (w0 w : World) (L : List HP) : Prop where
  os : w.os = w0.os
  tape : w.tape = w0.tape
  output : w.output = w0.output
  size : w0.heap.size ≤ w.heap.size
  drawn : w0.drawn ≤ w.drawn
  own : Own L fun b => w.heap[b]?

theorem Sat.ent {w0 w : World} {L L' : List HP} (h : Sat w0 w L) (e : Ent L L') : Sat w0 w L' := ⟨h.os, h.tape, h.output, h.size, h.drawn, e _ h.own⟩

theorem Sat.read {w0 w : World} {L : List HP} {b : Nat} {o : Obj} (h : Sat w0 w L) (r : Reads L b o) : w.heap[b]? = some o := r _ h.own

theorem Sat.drew {w0 w : World} {L : List HP} (h : Sat w0 w L) : Sat w0 w.drew L := ⟨h.os, h.tape, h.output, h.size, Nat.le_succ_of_le h.drawn, h.own⟩

theorem Sat.alloc {w0 w : World} {L : List HP} (h : Sat w0 w L) (o : Obj) : Sat w0 (w.alloc o) (pt w.heap.size o :: L) := by
  refine ⟨h.os, h.tape, h.output, by have := h.size; simp; omega, h.drawn, fun b => if b = w.heap.size then some o else none, fun b => w.heap[b]?, fun b => ?_, by simp [pt], h.own⟩
  simp only [World.alloc, Array.getElem?_push]
  by_cases hb : b = w.heap.size
  · subst hb; simp
  · simp [hb]

theorem Sat.set {w0 w : World} {L L' : List HP} {b : Nat} {o o' : Obj} (h : Sat w0 w L) (u : Upd L b o o' L') {w' : World} (hos : w'.os = w.os) (ht : w'.tape = w.tape) (ho : w'.output = w.output) (hd : w'.drawn = w.drawn)
    (hh : w'.heap = w.heap.setIfInBounds b o') : Sat w0 w' L' := by
  obtain ⟨h1, h2⟩ := u _ h.own
  refine ⟨hos.trans h.os, ht.trans h.tape, ho.trans h.output, by rw [hh]; simpa using h.size, hd ▸ h.drawn, ?_⟩
  have hlt : b < w.heap.size := by
    rcases Nat.lt_or_ge b w.heap.size with h' | h'
    · exact h'
    · simp [Array.getElem?_eq_none h'] at h1
  have : (fun c => w'.heap[c]?) = fun c => if c = b then some o' else w.heap[c]? := by
    funext c
    rw [hh, Array.getElem?_setIfInBounds]
    by_cases hc : b = c
    · subst hc; simp [hlt]
    · simp [hc, Ne.symm hc]
  rw [this]; exact h2

theorem cell?_of {w : World} {b : Nat} {c : Array Value} {T : TypeId} {fr : Nat × Nat} (h : w.heap[b]? = some (.cells c T fr)) (off : Nat) : w.cell? ⟨b, off, none⟩ = c[off]? := by
  simp [World.cell?, h]
theorem frozen?_of {w : World} {b : Nat} {c : Array Value} {T : TypeId} {fr : Nat × Nat} (h : w.heap[b]? = some (.cells c T fr)) (off : Nat) : w.frozen? ⟨b, off, none⟩ = (fr.1 ≤ off && off < fr.2) := by
  simp [World.frozen?, h]

theorem Sat.setCell {w0 w : World} {L L' : List HP} {b off : Nat} {c : Array Value} {T : TypeId} {fr : Nat × Nat} {v : Value} (h : Sat w0 w L)
    (u : Upd L b (.cells c T fr) (.cells (c.setIfInBounds off v) T fr) L') : Sat w0 (w.setCell ⟨b, off, none⟩ v) L' := by
  have h1 := (u _ h.own).1
  refine h.set u rfl rfl rfl rfl ?_
  apply Array.ext_getElem?
  intro i
  simp only [World.setCell, Array.getElem?_modify, Array.getElem?_setIfInBounds]
  by_cases hi : b = i
  · subst hi
    have hlt : b < w.heap.size := by
      rcases Nat.lt_or_ge b w.heap.size with h' | h'
      · exact h'
      · simp [Array.getElem?_eq_none h'] at h1
    have h1' : w.heap[b]? = some (.cells c T fr) := h1
    have h2 : w.heap[b] = .cells c T fr := by rw [Array.getElem?_eq_getElem hlt] at h1'; exact Option.some.inj h1'
    simp [h2, hlt]
  · simp [hi]

/-- The beginning: all that the world holds. -/
theorem Sat.start (w : World) : Sat w w [whole w] :=
  ⟨rfl, rfl, rfl, Nat.le_refl _, Nat.le_refl _, fun b => w.heap[b]?, fun _ => none, fun _ => .inl ⟨rfl, rfl⟩, fun _ _ => rfl, trivial⟩

/-- The end: what was there is as it was. -/
theorem Sat.below {w w' : World} {L : List HP} (h : Sat w w' (whole w :: L)) : RowKit.Below w.heap.size w w' := by
  refine ⟨h.os, h.tape, h.output, h.size, fun k hk => ?_⟩
  obtain ⟨p, q, hs, hp, _⟩ := h.own
  have h1 := hs k
  have h2 := hp k hk
  have h3 : w.heap[k]? ≠ none := by simp [hk]
  rcases h1 with ⟨h1, _⟩ | ⟨_, h1⟩
  · exact h1.symm.trans h2
  · rw [h1] at h2; exact absurd h2.symm h3

theorem Upd.reads {L L' : List HP} {b : Nat} {o o' : Obj} (h : Upd L b o o' L') : Reads L b o := fun q hq => (h q hq).1

theorem Sat.mk_own {w0 w w' : World} {L L' : List HP} (h : Sat w0 w L) (hos : w'.os = w.os) (ht : w'.tape = w.tape) (ho : w'.output = w.output) (hz : w.heap.size ≤ w'.heap.size) (hd : w.drawn ≤ w'.drawn)
    (k : Own L' fun b => w'.heap[b]?) : Sat w0 w' L' := ⟨hos.trans h.os, ht.trans h.tape, ho.trans h.output, Nat.le_trans h.size hz, Nat.le_trans h.drawn hd, k⟩
theorem own_cons {P : HP} {L : List HP} {h : Hp} : Own (P :: L) h ↔ ∃ p q, Split h p q ∧ P p ∧ Own L q := Iff.rfl
theorem pt_iff {b : Nat} {o : Obj} {h : Hp} : pt b o h ↔ h b = some o := Iff.rfl
theorem own_mono' {L : List HP} {q h : Hp} (H : Own L q) (k : ∀ b, q b ≠ none → h b = q b) : Own L h := own_mono H k
theorem Reads.own {L : List HP} {b : Nat} {o : Obj} {h : Hp} (r : Reads L b o) (H : Own L h) : h b = some o := r h H
theorem Ent.own {L L' : List HP} {h : Hp} (e : Ent L L') (H : Own L h) : Own L' h := e h H
theorem Ent.mk {L L' : List HP} (h : ∀ p, Own L p → Own L' p) : Ent L L' := h

attribute [irreducible] Own Ent Reads Upd pt fact ex whole st

end Go.SL

/-
  OWN BASE, PART 2: walking a function's code over a list of parts ('SW', 'SWL', 'SWH', 'SX'); contracts ('Tr').
-/
namespace Go.SL
open Go

theorem nbeq_ne {a b : Nat} (h : a ≠ b) : Nat.beq a b = false := by
  cases hh : Nat.beq a b
  · rfl
  · exact absurd (Nat.eq_of_beq_eq_true hh) h
theorem ne_of_nbeq {a b : Nat} (h : Nat.beq a b = false) : a ≠ b := Nat.ne_of_beq_eq_false h

/-! ### What is known of the temporaries -/

abbrev Env := List (Nat × Value)

def Env.get : Env → Nat → Option Value
  | [], _ => none
  | (k, v) :: r, t => if Nat.beq k t = true then some v else Env.get r t

def evO (env : Env) : Operand → Option Value
  | .tmp t => env.get t
  | .const v => some v
  | .global g => some (.pointer (some ⟨g, 0, none⟩))
  | .func f => some (.func (.func f) #[] #[])

def putE (env : Env) (dst : Option Tmp) (v : Value) : Env :=
  match dst with
  | some d => (d, v) :: env
  | none => env

/-- Where a piece of code is gone: so many temporaries; these calls are deferred; in the round of a loop over a function, or in none. -/
structure Cx where
  n : Nat
  ds : List Deferred
  r : Option Nat
def fen (r : Option Nat) : Fence := { Fence.wide with round := r }
theorem calls_fen {P : Program} {f : FuncId} {args : Array Value} {w : World} {R : Ending → World → Prop} {n : Nat} (r : Option Nat) (h : Calls P f args w R) : CallsIn (fen r) n P f args w R := (callsIn_wide.2 h : CallsIn Fence.wide n P f args w R)

def dstOk (nt : Cx) : Option Tmp → Bool
  | some d => Nat.blt d nt.n
  | none => true

structure Rel (nt : Cx) (env : Env) (a : Act) : Prop where
  defers : a.defers = nt.ds
  size : a.tmps.size = nt.n
  get : ∀ t v, env.get t = some v → a.tmps[t]? = some v

theorem Rel.eval {nt : Cx} {env : Env} {a : Act} (h : Rel nt env a) {x : Operand} {v : Value} (hx : evO env x = some v) : a.eval x = v := by
  cases x <;> simp only [evO, Option.some.injEq] at hx <;> simp only [Act.eval]
  case tmp t => have := h.get t v hx; simp [Array.getD_eq_getD_getElem?, this]
  all_goals exact hx

theorem Rel.put {nt : Cx} {env : Env} {a : Act} (h : Rel nt env a) {dst : Option Tmp} (hd : dstOk nt dst = true) (v : Value) : Rel nt (putE env dst v) (a.put dst v) := by
  cases dst with
  | none => exact h
  | some d =>
    have hlt : d < nt.n := by simpa [dstOk] using hd
    refine ⟨h.defers, by simp [Act.put, h.size], fun t u hu => ?_⟩
    simp only [putE, Env.get] at hu
    simp only [Act.put, Array.getElem?_setIfInBounds, h.size]
    by_cases hdt : d = t
    · subst hdt
      simp at hu
      simp [hlt, hu]
    · have : Nat.beq d t = false := nbeq_ne hdt
      simp [this] at hu
      simpa [hdt] using h.get t u hu

def subE (E env : Env) : Prop := ∀ t v, E.get t = some v → env.get t = some v
theorem subE.nil {env : Env} : subE [] env := fun _ _ h => by simp [Env.get] at h
theorem subE.cons {t : Nat} {v : Value} {E env : Env} (h : env.get t = some v) (k : subE E env) : subE ((t, v) :: E) env := fun u x hx => by
  simp only [Env.get] at hx
  by_cases e : t = u
  · subst e; simp at hx; rw [← hx]; exact h
  · have : Nat.beq t u = false := nbeq_ne e
    simp [this] at hx
    exact k u x hx
theorem Rel.sub {nt : Cx} {E env : Env} {a : Act} (h : Rel nt env a) (s : subE E env) : Rel nt E a := ⟨h.defers, h.size, fun t v hv => h.get t v (s t v hv)⟩

theorem wpIn_loop_ghost {F : Fence} {n : Nat} {P : Program} {Q : Exit → Act → World → Prop} {a : Act} {w : World} {c : Code} (I : Nat → Act → World → Prop) (n₀ : Nat) (h₀ : I n₀ a w)
    (round : ∀ m a w, I m a w → c.wpIn F n P (Exit.then (fun a' w' => ∃ n', n' < m ∧ I n' a' w') Q) a w) : (Code.loop c).wpIn F n P Q a w := by
  refine wpIn_loop (fun a w => ∃ n, I n a w) (fun a w => leastOf (fun n => I n a w)) ⟨n₀, h₀⟩ ?_
  intro a w hI
  refine wpIn_mono (round _ a w (leastOf_spec hI).1) ?_
  intro e a' w' hq
  cases e with
  | normal =>
    obtain ⟨n', hlt, hI'⟩ := hq
    exact show (∃ n, I n a' w') ∧ leastOf (fun n => I n a' w') < leastOf (fun n => I n a w) from ⟨⟨n', hI'⟩, Nat.lt_of_le_of_lt ((leastOf_spec ⟨n', hI'⟩).2 n' hI') hlt⟩
  | exit id => exact hq
  | goto l => exact hq
  | ret => exact hq
  | panic ch => exact hq
  | outgrown => exact hq

/-- An operation that is no defer statement goes in a round as everywhere. -/
theorem semAt_of {P : Program} {ro : Option Nat} {ρ : Operand → Value} {o : Oper} {w w' : World} {x : Next} (h : (execOp ρ o).run P w = .ok x w') (hx : ∀ d, x ≠ .defer d) : (o.semAt ro ρ).run P w = .ok x w' := by
  by_cases hd : ∃ c, o.op = .defer c
  · obtain ⟨c, hc⟩ := hd
    simp only [execOp, hc, Sem.run_bind] at h
    cases hr : (resolve ρ c o.type).run P w with
    | ok d w1 =>
      rw [hr] at h
      simp only [Result.andThen, Sem.run_pure, Result.ok.injEq] at h
      exact absurd h.1.symm (hx d)
    | halt e w1 => rw [hr] at h; cases h
  · rw [Oper.semAt_eq _ _ _ (fun c hc => hd ⟨c, hc⟩)]; exact h

section
variable {P : Program} {w0 : World} {nt : Cx}

/-! ### One operation -/

/-- It yields v and turns nothing. -/
structure OpR (P : Program) (w0 : World) (nt : Cx) (L : List HP) (env : Env) (op : Op) (ty : TypeId) (v : Value) : Prop where
  h : ∀ (o : Oper), o.op = op → o.type = ty → ∀ a, Rel nt env a → ∀ w, Sat w0 w L → (execOp a.eval o).run P w = .ok (.value v) w

/-- It yields some v, and leaves some L', as K says. -/
structure OpW (P : Program) (w0 : World) (nt : Cx) (L : List HP) (env : Env) (op : Op) (ty : TypeId) (K : Value → List HP → Prop) : Prop where
  h : ∀ (o : Oper), o.op = op → o.type = ty → ∀ a, Rel nt env a → ∀ w, Sat w0 w L → ∃ v w' L', ((execOp a.eval o).run P w = .ok (.value v) w' ∨ (v = undef ∧ (execOp a.eval o).run P w = .ok .skip w')) ∧ Sat w0 w' L' ∧ K v L'

/-- A contract: called with args over L the function returns some v over some L', as R says. -/
structure Tr (P : Program) (f : FuncId) (args : Array Value) (L : List HP) (R : Value → List HP → Prop) : Prop where
  h : ∀ w0 w, Sat w0 w L → Calls P f args w fun e w' => ∃ v L', e = .returned v ∧ Sat w0 w' L' ∧ R v L'

/-- It calls, and the call returns some v over some L', as K says. -/
structure OpC (P : Program) (w0 : World) (nt : Cx) (L : List HP) (env : Env) (op : Op) (ty : TypeId) (K : Value → List HP → Prop) : Prop where
  h : ∀ (o : Oper), o.op = op → o.type = ty → ∀ a, Rel nt env a → ∀ w, Sat w0 w L → ∃ f args, (execOp a.eval o).run P w = .ok (.enter f args) w ∧
    Calls P f args w fun e w' => ∃ v L', e = .returned v ∧ Sat w0 w' L' ∧ K v L'

/-! ### Walking -/

structure SW (P : Program) (w0 : World) (nt : Cx) (L : List HP) (env : Env) (c : Code) (Q : Exit → Act → World → Prop) : Prop where
  h : ∀ w a, Sat w0 w L → Rel nt env a → c.wpIn (fen nt.r) 0 P Q a w
structure SWL (P : Program) (w0 : World) (nt : Cx) (L : List HP) (env : Env) (ops : Array Oper) (rest : List Oper) (Q : Exit → Act → World → Prop) : Prop where
  h : ∀ w a, Sat w0 w L → Rel nt env a → wpListIn (fen nt.r) 0 P ops Q rest a w
structure SX (w0 : World) (nt : Cx) (L : List HP) (env : Env) (e : Exit) (Q : Exit → Act → World → Prop) : Prop where
  h : ∀ w a, Sat w0 w L → Rel nt env a → Q e a w

variable {L : List HP} {env : Env} {Q : Exit → Act → World → Prop}

theorem sw_seq {x y : Code} (h : SW P w0 nt L env x (Exit.then (y.wpIn (fen nt.r) 0 P Q) Q)) : SW P w0 nt L env (.seq x y) Q := .mk fun w a hs hr => wpIn_seq (h.h w a hs hr)
theorem sw_block {id : Nat} {c : Code} (h : SW P w0 nt L env c (Exit.inBlock id Q)) : SW P w0 nt L env (.block id c) Q := .mk fun w a hs hr => wpIn_block (h.h w a hs hr)
theorem sw_skip (h : SX w0 nt L env .normal Q) : SW P w0 nt L env .skip Q := .mk fun w a hs hr => wpIn_skip (h.h w a hs hr)
theorem sw_ret (h : SX w0 nt L env .ret Q) : SW P w0 nt L env .ret Q := .mk fun w a hs hr => wpIn_ret (h.h w a hs hr)
theorem sw_exit {id : Nat} (h : SX w0 nt L env (.exit id) Q) : SW P w0 nt L env (.exit id) Q := .mk fun w a hs hr => wpIn_exit (h.h w a hs hr)
theorem sw_region {id : Nat} {l : List Oper} (h : SWL P w0 nt L env l.toArray l Q) : SW P w0 nt L env (.region id l.toArray false) Q := .mk fun w a hs hr => wpIn_region_lit (h.h w a hs hr)

theorem sx_next {c : Code} (h : SW P w0 nt L env c Q) : SX w0 nt L env .normal (Exit.then (c.wpIn (fen nt.r) 0 P Q) Q) := .mk fun w a hs hr => h.h w a hs hr
theorem sx_past_ret {K : Act → World → Prop} (h : SX w0 nt L env .ret Q) : SX w0 nt L env .ret (Exit.then K Q) := .mk fun w a hs hr => h.h w a hs hr
theorem sx_past_exit {K : Act → World → Prop} {id : Nat} (h : SX w0 nt L env (.exit id) Q) : SX w0 nt L env (.exit id) (Exit.then K Q) := .mk fun w a hs hr => h.h w a hs hr
theorem sx_block_normal {id : Nat} (h : SX w0 nt L env .normal Q) : SX w0 nt L env .normal (Exit.inBlock id Q) := .mk fun w a hs hr => h.h w a hs hr
theorem sx_block_ret {id : Nat} (h : SX w0 nt L env .ret Q) : SX w0 nt L env .ret (Exit.inBlock id Q) := .mk fun w a hs hr => h.h w a hs hr
theorem sx_block_here {id : Nat} (h : SX w0 nt L env .normal Q) : SX w0 nt L env (.exit id) (Exit.inBlock id Q) := .mk fun w a hs hr => by simpa [Exit.inBlock] using h.h w a hs hr
theorem sx_block_past {id j : Nat} (hj : Nat.beq j id = false) (h : SX w0 nt L env (.exit j) Q) : SX w0 nt L env (.exit j) (Exit.inBlock id Q) := .mk fun w a hs hr => by
  have : j ≠ id := ne_of_nbeq hj
  simpa [Exit.inBlock, this] using h.h w a hs hr

theorem sw_cond {c : Operand} {x y : Code} {t : Bool} (hc : evO env c = some (.bool t)) (h : SW P w0 nt L env (if t then x else y) Q) : SW P w0 nt L env (.cond c x y) Q :=
  .mk fun w a hs hr => wpIn_cond (hr.eval hc) (h.h w a hs hr)
theorem sw_cond_true {c : Operand} {x y : Code} (hc : evO env c = some (.bool true)) (h : SW P w0 nt L env x Q) : SW P w0 nt L env (.cond c x y) Q := sw_cond hc h
theorem sw_cond_false {c : Operand} {x y : Code} (hc : evO env c = some (.bool false)) (h : SW P w0 nt L env y Q) : SW P w0 nt L env (.cond c x y) Q := sw_cond hc h
theorem sw_cond_dec {c : Operand} {x y : Code} {p : Prop} [Decidable p] (hc : evO env c = some (.bool (decide p))) (ht : p → SW P w0 nt L env x Q) (hf : ¬ p → SW P w0 nt L env y Q) :
    SW P w0 nt L env (.cond c x y) Q := by
  by_cases hp : p
  · exact sw_cond_true (by simpa [hp] using hc) (ht hp)
  · exact sw_cond_false (by simpa [hp] using hc) (hf hp)
theorem sw_cond_bool {c : Operand} {x y : Code} {t : Bool} (hc : evO env c = some (.bool t)) (ht : t = true → SW P w0 nt L env x Q) (hf : t = false → SW P w0 nt L env y Q) :
    SW P w0 nt L env (.cond c x y) Q := by
  cases t
  · exact sw_cond_false hc (hf rfl)
  · exact sw_cond_true hc (ht rfl)
theorem sw_cond_not {c : Operand} {x y : Code} {p : Prop} [Decidable p] (hc : evO env c = some (.bool (!decide p))) (ht : ¬ p → SW P w0 nt L env x Q) (hf : p → SW P w0 nt L env y Q) :
    SW P w0 nt L env (.cond c x y) Q := by
  by_cases hp : p
  · exact sw_cond_false (by simpa [hp] using hc) (hf hp)
  · exact sw_cond_true (by simpa [hp] using hc) (ht hp)

/-- Another list, another knowledge. -/
theorem sw_ent {c : Code} {L' : List HP} (e : Ent L L') (h : SW P w0 nt L' env c Q) : SW P w0 nt L env c Q := .mk fun w a hs hr => h.h w a (hs.ent e) hr
theorem sw_sub {c : Code} {E : Env} (e : subE E env) (h : SW P w0 nt L E c Q) : SW P w0 nt L env c Q := .mk fun w a hs hr => h.h w a hs (hr.sub e)
theorem swl_ent {ops : Array Oper} {rest : List Oper} {L' : List HP} (e : Ent L L') (h : SWL P w0 nt L' env ops rest Q) : SWL P w0 nt L env ops rest Q := .mk fun w a hs hr => h.h w a (hs.ent e) hr
theorem sx_ent {e : Exit} {L' : List HP} (en : Ent L L') (h : SX w0 nt L' env e Q) : SX w0 nt L env e Q := .mk fun w a hs hr => h.h w a (hs.ent en) hr
/-- A fact that the world bears. -/
theorem sw_know {c : Code} {φ : Prop} (hφ : ∀ h, Own L h → φ) (h : φ → SW P w0 nt L env c Q) : SW P w0 nt L env c Q := .mk fun w a hs hr => (h (hφ _ hs.own)).h w a hs hr
theorem swl_know {ops : Array Oper} {rest : List Oper} {φ : Prop} (hφ : ∀ h, Own L h → φ) (h : φ → SWL P w0 nt L env ops rest Q) : SWL P w0 nt L env ops rest Q := .mk fun w a hs hr => (h (hφ _ hs.own)).h w a hs hr
theorem sx_know {e : Exit} {φ : Prop} (hφ : ∀ h, Own L h → φ) (h : φ → SX w0 nt L env e Q) : SX w0 nt L env e Q := .mk fun w a hs hr => (h (hφ _ hs.own)).h w a hs hr

/-! a cut: what holds behind a piece, whichever way it was gone -/
theorem sw_cut {c : Code} {K : Exit → Act → World → Prop} (h : SW P w0 nt L env c K) (k : ∀ e a w, K e a w → Q e a w) : SW P w0 nt L env c Q := .mk fun w a hs hr => wpIn_mono (h.h w a hs hr) k

/-! ### Loops -/

/-- What holds at a round's head. -/
def Head {γ : Type} (w0 : World) (nt : Cx) (E : γ → Env) (H : γ → List HP) (C : γ → Prop) (a : Act) (w : World) (g : γ) : Prop := C g ∧ Sat w0 w (H g) ∧ Rel nt (E g) a

def Back {γ : Type} (w0 : World) (nt : Cx) (m : γ → Nat) (E : γ → Env) (H : γ → List HP) (C : γ → Prop) (g : γ) (a : Act) (w : World) : Prop := ∃ g', m g' < m g ∧ Head w0 nt E H C a w g'

theorem sw_loop {γ : Type} {body : Code} (m : γ → Nat) (E : γ → Env) (H : γ → List HP) (C : γ → Prop) (g0 : γ) (hC : C g0) (hE : subE (E g0) env) (hH : Ent L (H g0))
    (step : ∀ g, C g → SW P w0 nt (H g) (E g) body (Exit.then (Back w0 nt m E H C g) Q)) : SW P w0 nt L env (.loop body) Q := .mk fun w a hs hr => by
  refine wpIn_loop_ghost (fun n a w => ∃ g, m g = n ∧ Head w0 nt E H C a w g) (m g0) ⟨g0, rfl, hC, hs.ent hH, hr.sub hE⟩ ?_
  rintro n a w ⟨g, rfl, h1, h2, h3⟩
  refine wpIn_mono ((step g h1).h w a h2 h3) fun e a' w' hq => ?_
  cases e with
  | normal => obtain ⟨g', hlt, hh⟩ := hq; exact ⟨m g', hlt, g', rfl, hh⟩
  | _ => exact hq

theorem sx_back {γ : Type} {m : γ → Nat} {E : γ → Env} {H : γ → List HP} {C : γ → Prop} {g : γ} (g' : γ) (hm : m g' < m g) (hC : C g') (hE : subE (E g') env) (hH : Ent L (H g')) :
    SX w0 nt L env .normal (Exit.then (Back w0 nt m E H C g) Q) := .mk fun _ _ hs hr => ⟨g', hm, hC, hs.ent hH, hr.sub hE⟩

/-! ### A list of operations, in the text's order -/

variable {ops : Array Oper} {rest : List Oper} {dst : Option Tmp} {op : Op} {ty : TypeId} {pos : String} {after : Array Edge}

theorem swl_nil (h : SX w0 nt L env .normal Q) : SWL P w0 nt L env ops [] Q := .mk fun w a hs hr => h.h w a hs hr

theorem swl_r {v : Value} (h : OpR P w0 nt L env op ty v) (hd : dstOk nt dst = true) (k : SWL P w0 nt L (putE env dst v) ops rest Q) :
    SWL P w0 nt L env ops (⟨dst, op, ty, pos, after, none⟩ :: rest) Q := .mk fun w a hs hr => by
  unfold wpListIn
  rw [if_pos (by simp [Region.wanted])]
  refine ⟨fun _ _ => trivial, ?_⟩
  rw [semAt_of (h.h _ rfl rfl a hr w hs) (by simp)]
  exact k.h w _ hs (hr.put hd v)

theorem swl_w {K : Value → List HP → Prop} (h : OpW P w0 nt L env op ty K) (hd : dstOk nt dst = true) (k : ∀ v L', K v L' → SWL P w0 nt L' (putE env dst v) ops rest Q) :
    SWL P w0 nt L env ops (⟨dst, op, ty, pos, after, none⟩ :: rest) Q := .mk fun w a hs hr => by
  unfold wpListIn
  rw [if_pos (by simp [Region.wanted])]
  refine ⟨fun _ _ => trivial, ?_⟩
  obtain ⟨v, w', L', h1, h2, h3⟩ := h.h ⟨dst, op, ty, pos, after, none⟩ rfl rfl a hr w hs
  rcases h1 with h1 | ⟨rfl, h1⟩ <;> rw [semAt_of h1 (by simp)] <;> exact (k _ L' h3).h w' _ h2 (hr.put hd _)

theorem swl_c {K : Value → List HP → Prop} (h : OpC P w0 nt L env op ty K) (hd : dstOk nt dst = true) (k : ∀ v L', K v L' → SWL P w0 nt L' (putE env dst v) ops rest Q) :
    SWL P w0 nt L env ops (⟨dst, op, ty, pos, after, none⟩ :: rest) Q := .mk fun w a hs hr => by
  unfold wpListIn
  rw [if_pos (by simp [Region.wanted])]
  refine ⟨fun _ _ => trivial, ?_⟩
  obtain ⟨f, args, h1, h2⟩ := h.h ⟨dst, op, ty, pos, after, none⟩ rfl rfl a hr w hs
  rw [semAt_of h1 (by simp), Oper.uponIn_enter]
  exact ⟨fun hh => by simp [fen, Fence.wide] at hh, calls_fen _ (Calls.mono h2 fun e w' ⟨v, L', he, h3, h4⟩ => by subst he; exact (k v L' h4).h w' _ h3 (hr.put hd v))⟩

theorem yielded_of {nt : Cx} {env : Env} {a : Act} (hr : Rel nt env a) {ops : Array Oper} {j d : Nat} {b : Bool} (hj : (ops[j]?).bind (·.dst) = some d) (hb : env.get d = some (.bool b)) :
    yielded ops a.tmps j = some b := by
  unfold yielded
  rw [hj]
  simp [hr.get d _ hb]

theorem swl_g_on {j d : Nat} {want : Bool} (hj : (ops[j]?).bind (·.dst) = some d) (hb : env.get d = some (.bool want))
    (k : SWL P w0 nt L env ops (⟨dst, op, ty, pos, after, none⟩ :: rest) Q) : SWL P w0 nt L env ops (⟨dst, op, ty, pos, after, some (j, want)⟩ :: rest) Q := .mk fun w a hs hr => by
  have := k.h w a hs hr
  unfold wpListIn at this ⊢
  rw [if_pos (by simp [Region.wanted])] at this
  rw [if_pos (by simp [Region.wanted, yielded_of hr hj hb])]
  exact this

theorem swl_g_off {j d : Nat} {want b : Bool} (hj : (ops[j]?).bind (·.dst) = some d) (hb : env.get d = some (.bool b)) (hne : (b == want) = false) (hd : dstOk nt dst = true)
    (k : SWL P w0 nt L (putE env dst undef) ops rest Q) : SWL P w0 nt L env ops (⟨dst, op, ty, pos, after, some (j, want)⟩ :: rest) Q := .mk fun w a hs hr => by
  unfold wpListIn
  rw [if_neg (by simp [Region.wanted, yielded_of hr hj hb]; simpa using hne)]
  exact ⟨fun _ _ => trivial, k.h w _ hs (hr.put hd _)⟩

theorem yielded_un {nt : Cx} {env : Env} {a : Act} (hr : Rel nt env a) {ops : Array Oper} {j d : Nat} (hj : (ops[j]?).bind (·.dst) = some d) (hb : env.get d = some undef) :
    yielded ops a.tmps j = none := by
  unfold yielded
  rw [hj]
  simp [hr.get d _ hb, undef]
theorem swl_g_un {j d : Nat} {want : Bool} (hj : (ops[j]?).bind (·.dst) = some d) (hb : env.get d = some undef) (hd : dstOk nt dst = true)
    (k : SWL P w0 nt L (putE env dst undef) ops rest Q) : SWL P w0 nt L env ops (⟨dst, op, ty, pos, after, some (j, want)⟩ :: rest) Q := .mk fun w a hs hr => by
  unfold wpListIn
  rw [if_neg (by simp [Region.wanted, yielded_un hr hj hb])]
  exact ⟨fun _ _ => trivial, k.h w _ hs (hr.put hd _)⟩

theorem get_over {env : Env} {d : Nat} {v : Value} (hb : env.get d = some v) : subE ((d, v) :: env) env := fun t x hx => by
  simp only [Env.get] at hx
  by_cases e : d = t
  · subst e; simp at hx; rw [← hx]; exact hb
  · have : Nat.beq d t = false := nbeq_ne e
    simp [this] at hx; exact hx

/-- Part on a test that a guard asks. -/
theorem swl_g_dec {j d : Nat} {want : Bool} {p : Prop} [Decidable p] (hj : (ops[j]?).bind (·.dst) = some d) (hb : env.get d = some (.bool (decide p)))
    (ht : p → SWL P w0 nt L ((d, .bool true) :: env) ops (⟨dst, op, ty, pos, after, some (j, want)⟩ :: rest) Q)
    (hf : ¬ p → SWL P w0 nt L ((d, .bool false) :: env) ops (⟨dst, op, ty, pos, after, some (j, want)⟩ :: rest) Q) :
    SWL P w0 nt L env ops (⟨dst, op, ty, pos, after, some (j, want)⟩ :: rest) Q := .mk fun w a hs hr => by
  have _ := hj
  by_cases hp : p
  · have hb' : env.get d = some (.bool true) := by simpa [hp] using hb
    exact (ht hp).h w a hs (hr.sub (get_over hb'))
  · have hb' : env.get d = some (.bool false) := by simpa [hp] using hb
    exact (hf hp).h w a hs (hr.sub (get_over hb'))

theorem swl_g_ndec {j d : Nat} {want : Bool} {p : Prop} [Decidable p] (hj : (ops[j]?).bind (·.dst) = some d) (hb : env.get d = some (.bool (!decide p)))
    (ht : ¬ p → SWL P w0 nt L ((d, .bool true) :: env) ops (⟨dst, op, ty, pos, after, some (j, want)⟩ :: rest) Q)
    (hf : p → SWL P w0 nt L ((d, .bool false) :: env) ops (⟨dst, op, ty, pos, after, some (j, want)⟩ :: rest) Q) :
    SWL P w0 nt L env ops (⟨dst, op, ty, pos, after, some (j, want)⟩ :: rest) Q := .mk fun w a hs hr => by
  have _ := hj
  by_cases hp : p
  · have hb' : env.get d = some (.bool false) := by simpa [hp] using hb
    exact (hf hp).h w a hs (hr.sub (get_over hb'))
  · have hb' : env.get d = some (.bool true) := by simpa [hp] using hb
    exact (ht hp).h w a hs (hr.sub (get_over hb'))

theorem swl_g_bool {j d : Nat} {want t : Bool} (hj : (ops[j]?).bind (·.dst) = some d) (hb : env.get d = some (.bool t))
    (ht : t = true → SWL P w0 nt L ((d, .bool true) :: env) ops (⟨dst, op, ty, pos, after, some (j, want)⟩ :: rest) Q)
    (hf : t = false → SWL P w0 nt L ((d, .bool false) :: env) ops (⟨dst, op, ty, pos, after, some (j, want)⟩ :: rest) Q) :
    SWL P w0 nt L env ops (⟨dst, op, ty, pos, after, some (j, want)⟩ :: rest) Q := .mk fun w a hs hr => by
  have _ := hj
  cases t
  · exact (hf rfl).h w a hs (hr.sub (get_over hb))
  · exact (ht rfl).h w a hs (hr.sub (get_over hb))

/-! ### A region that draws its order -/

/-- What a panic's end says does not hang on a temporary. -/
class PanicOK (Q : Exit → Act → World → Prop) : Prop where
  h : ∀ c a dst v w, Q (.panic c) (a.put dst v) w → Q (.panic c) a w
  out : ∀ a w, ¬ Q .outgrown a w

instance PanicOK.then {K : Act → World → Prop} {Q : Exit → Act → World → Prop} [h : PanicOK Q] : PanicOK (Exit.then K Q) := ⟨fun c a dst v w H => h.h c a dst v w H, fun a w H => h.out a w H⟩
instance PanicOK.inBlock {id : Nat} {Q : Exit → Act → World → Prop} [h : PanicOK Q] : PanicOK (Exit.inBlock id Q) := ⟨fun c a dst v w H => h.h c a dst v w H, fun a w H => h.out a w H⟩
def noDefer : List Oper → Bool
  | [] => true
  | o :: r => (match o.op with | .defer _ => false | _ => true) && noDefer r
theorem noDefer_at : ∀ {l : List Oper}, noDefer l = true → ∀ (i : Nat) (o : Oper), l[i]? = some o → ∀ c, o.op ≠ Op.defer c
  | [], _, i, o, h, _ => by simp at h
  | x :: r, hd, 0, o, h, c => by
    obtain rfl : x = o := by simpa using h
    intro hc
    simp [noDefer, hc] at hd
  | x :: r, hd, i + 1, o, h, c => by
    simp only [noDefer, Bool.and_eq_true] at hd
    exact noDefer_at hd.2 i o (by simpa using h) c

theorem wpOps_in {r : Option Nat} {ops : Array Oper} (hq : ∀ a w, ¬ Q .outgrown a w) (hd : ∀ (i : Nat) (o : Oper), ops[i]? = some o → ∀ c, o.op ≠ Op.defer c) : ∀ (l : List Nat) (a : Act) (w : World), wpOps P ops Q l a w → wpOpsIn (fen r) 0 P ops Q l a w
  | [], _, _, h => h
  | i :: l, a, w, h => by
    unfold wpOps at h
    unfold wpOpsIn
    cases hi : ops[i]? with
    | none => rw [hi] at h; exact wpOps_in hq hd l a w h
    | some o =>
      rw [hi] at h
      simp only at h ⊢
      by_cases hw : Region.wanted o (yielded ops a.tmps) = true
      · rw [if_pos hw] at h ⊢
        rcases h with h | ⟨_, a', w', h⟩
        · refine ⟨fun _ _ => trivial, ?_⟩
          rw [Oper.semAt_eq _ _ _ (hd i o hi)]
          unfold Oper.wp at h
          generalize (execOp a.eval o).run P w = x at h
          cases x with
          | ok n w1 =>
            cases n <;> simp only [Oper.upon] at h
            case value v => exact wpOps_in hq hd l _ w1 h
            case skip => exact wpOps_in hq hd l _ w1 h
            case defer d => exact wpOps_in hq hd l _ w1 h
            case enter f args =>
              rw [Oper.uponIn_enter]
              refine ⟨fun hh => by simp [fen, Fence.wide] at hh, calls_fen r (Calls.mono h fun e w2 he => ?_)⟩
              cases e with
              | returned v => exact wpOps_in hq hd l _ w2 he
              | panicked c => exact he
              | outgrown => exact he
            case row row args =>
              rw [Oper.uponIn_row]
              refine ⟨fun hh => by simp [fen, Fence.wide] at hh, fun c cs _ => ?_⟩
              obtain ⟨v, w2, h1, h2⟩ := h c cs
              exact ⟨v, w2, wpOps_in hq hd l _ w2 h1, (stepsIn_wide (P := P)).2 h2⟩
          | halt x w1 => cases x <;> simp only [Oper.upon] at h <;> first | exact h | exact h.elim
        · exact absurd h (hq a' w')
      · rw [if_neg hw] at h ⊢
        exact ⟨fun _ _ => trivial, wpOps_in hq hd l _ w h⟩

theorem wpIn_region_held {r : Option Nat} {id : Nat} {l : List Oper} {S : World → Prop} {a : Act} {w : World} [hq : PanicOK Q] (hm : P.follows .mixedOrders = true) (hd : noDefer l = true)
    (h : wpAnyH P .any l.toArray Q S l.toArray.size (Array.replicate l.toArray.size false) a { w with drawn := w.drawn + 1 }) : (Code.region id l.toArray true).wpIn (fen r) 0 P Q a w :=
  wpIn_region_draw fun t => by
    simp only [Region.schedule, hm, Bool.true_or, if_true]
    exact wpOps_in hq.out (fun i o hi => noDefer_at hd i o (by simpa using hi)) _ _ _ (wpAny_sound l.toArray.size t _ a _ (wpAny_of_held _ _ _ _ h))

def hOK (ops : Array Oper) : Array Bool → List (Nat × Bool) → Bool
  | listed, [] => (Region.ready .any ops listed).isEmpty
  | listed, (i, true) :: r => Region.free .any ops listed i && (Region.ready .any ops listed).contains i && hOK ops (listed.setIfInBounds i true) r
  | listed, (i, false) :: r => Region.ready .any ops listed == [i] && hOK ops (listed.setIfInBounds i true) r

structure SWH (P : Program) (w0 : World) (nt : Cx) (Lr L : List HP) (env : Env) (ops : Array Oper) (listed : Array Bool) (order : List (Nat × Bool)) (Q : Exit → Act → World → Prop) : Prop where
  h : hOK ops listed order = true → Region.noSelect ops = true → Ent L Lr → ∀ w a, Sat w0 w L → Rel nt env a → wpAnyH P .any ops Q (fun w => Sat w0 w Lr) order.length listed a w

variable {Lr : List HP} {listed : Array Bool} {order : List (Nat × Bool)} {i : Nat}

theorem sw_region_draw {id : Nat} {l : List Oper} (Lr : List HP) (order : List (Nat × Bool)) (hm : P.follows .mixedOrders = true) (hlen : l.length = order.length)
    (hok : (Region.noSelect l.toArray && noDefer l && hOK l.toArray (Array.replicate l.toArray.size false) order) = true) (he : Ent L Lr) [PanicOK Q]
    (h : SWH P w0 nt Lr L env l.toArray (Array.replicate l.toArray.size false) order Q) : SW P w0 nt L env (.region id l.toArray true) Q := .mk fun w a hs hr => by
  simp only [Bool.and_eq_true] at hok
  refine wpIn_region_held (S := fun w => Sat w0 w Lr) hm hok.1.2 ?_
  have := h.h hok.2 hok.1.1 he w.drew a hs.drew hr
  rw [← hlen] at this
  simpa using this

theorem sw_draw {id : Nat} {l : List Oper} (order : List (Nat × Bool)) (hm : P.follows .mixedOrders = true) (hlen : l.length = order.length)
    (hok : (Region.noSelect l.toArray && noDefer l && hOK l.toArray (Array.replicate l.toArray.size false) order) = true) [PanicOK Q]
    (h : SWH P w0 nt L L env l.toArray (Array.replicate l.toArray.size false) order Q) : SW P w0 nt L env (.region id l.toArray true) Q := sw_region_draw L order hm hlen hok (Ent.refl L) h

theorem swh_nil (h : SX w0 nt L env .normal Q) : SWH P w0 nt Lr L env ops listed [] Q := .mk fun hok _ _ w a hs hr =>
  wpAnyH_done (by simpa [hOK] using hok) (h.h w a hs hr) _

/-- A light one. -/
theorem swh_r [hp : PanicOK Q] {v : Value} {g : Option (Nat × Bool)} (hi : ops[i]? = some ⟨dst, op, ty, pos, after, g⟩)
    (hg : ∀ a, Rel nt env a → Region.wanted ⟨dst, op, ty, pos, after, g⟩ (yielded ops a.tmps) = true)
    (h : OpR P w0 nt Lr env op ty v) (hd : dstOk nt dst = true) (k : SWH P w0 nt Lr L (putE env dst v) ops (listed.setIfInBounds i true) order Q) :
    SWH P w0 nt Lr L env ops listed ((i, true) :: order) Q := .mk fun hok hs he w a hw hr => by
  simp only [hOK, Bool.and_eq_true] at hok
  refine wpAnyH_take hi hs hok.1.1 hok.1.2 (fun c a w => hp.h c a _ _ w) (v := v) (.inl ⟨hg a hr, fun w' hw' => h.h _ rfl rfl a hr w' hw'⟩) (hw.ent he) ?_
  exact k.h hok.2 hs he w _ hw (hr.put hd v)

/-- One that is not wanted. -/
theorem swh_off [hp : PanicOK Q] {j d : Nat} {want b : Bool} (hi : ops[i]? = some ⟨dst, op, ty, pos, after, some (j, want)⟩) (hj : (ops[j]?).bind (·.dst) = some d) (hb : env.get d = some (.bool b)) (hne : (b == want) = false)
    (hd : dstOk nt dst = true) (k : SWH P w0 nt Lr L (putE env dst undef) ops (listed.setIfInBounds i true) order Q) :
    SWH P w0 nt Lr L env ops listed ((i, true) :: order) Q := .mk fun hok hs he w a hw hr => by
  simp only [hOK, Bool.and_eq_true] at hok
  refine wpAnyH_take hi hs hok.1.1 hok.1.2 (fun c a w => hp.h c a _ _ w) (v := undef) (.inr ⟨?_, rfl⟩) (hw.ent he) ?_
  · simp [Region.wanted, yielded_of hr hj hb]; simpa using hne
  · exact k.h hok.2 hs he w _ hw (hr.put hd _)

theorem swh_un [hp : PanicOK Q] {j d : Nat} {want : Bool} (hi : ops[i]? = some ⟨dst, op, ty, pos, after, some (j, want)⟩) (hj : (ops[j]?).bind (·.dst) = some d) (hb : env.get d = some undef)
    (hd : dstOk nt dst = true) (k : SWH P w0 nt Lr L (putE env dst undef) ops (listed.setIfInBounds i true) order Q) :
    SWH P w0 nt Lr L env ops listed ((i, true) :: order) Q := .mk fun hok hs he w a hw hr => by
  simp only [hOK, Bool.and_eq_true] at hok
  refine wpAnyH_take hi hs hok.1.1 hok.1.2 (fun c a w => hp.h c a _ _ w) (v := undef) (.inr ⟨?_, rfl⟩) (hw.ent he) ?_
  · simp [Region.wanted, yielded_un hr hj hb]
  · exact k.h hok.2 hs he w _ hw (hr.put hd _)

theorem swh_heavy_un {j d : Nat} {want : Bool} (hi : ops[i]? = some ⟨dst, op, ty, pos, after, some (j, want)⟩) (hj : (ops[j]?).bind (·.dst) = some d) (hb : env.get d = some undef)
    (hd : dstOk nt dst = true) (k : SWH P w0 nt Lr L (putE env dst undef) ops (listed.setIfInBounds i true) order Q) :
    SWH P w0 nt Lr L env ops listed ((i, false) :: order) Q := .mk fun hok hs he w a hw hr => by
  simp only [hOK, Bool.and_eq_true, beq_iff_eq] at hok
  refine wpAnyH_all hok.1 (by simp) fun i' hi' => ?_
  obtain rfl : i' = i := by simpa using hi'
  unfold wpOp
  simp only [hi]
  rw [if_neg (by simp [Region.wanted, yielded_un hr hj hb])]
  exact ⟨hw.ent he, k.h hok.2 hs he w _ hw (hr.put hd _)⟩

theorem swh_heavy_off {j d : Nat} {want b : Bool} (hi : ops[i]? = some ⟨dst, op, ty, pos, after, some (j, want)⟩) (hj : (ops[j]?).bind (·.dst) = some d) (hb : env.get d = some (.bool b)) (hne : (b == want) = false)
    (hd : dstOk nt dst = true) (k : SWH P w0 nt Lr L (putE env dst undef) ops (listed.setIfInBounds i true) order Q) :
    SWH P w0 nt Lr L env ops listed ((i, false) :: order) Q := .mk fun hok hs he w a hw hr => by
  simp only [hOK, Bool.and_eq_true, beq_iff_eq] at hok
  refine wpAnyH_all hok.1 (by simp) fun i' hi' => ?_
  obtain rfl : i' = i := by simpa using hi'
  unfold wpOp
  simp only [hi]
  rw [if_neg (by simp [Region.wanted, yielded_of hr hj hb]; simpa using hne)]
  exact ⟨hw.ent he, k.h hok.2 hs he w _ hw (hr.put hd _)⟩

theorem swh_heavy {g : Option (Nat × Bool)} (hi : ops[i]? = some ⟨dst, op, ty, pos, after, g⟩)
    (hg : ∀ a, Rel nt env a → Region.wanted ⟨dst, op, ty, pos, after, g⟩ (yielded ops a.tmps) = true)
    (h : ∀ a w, Rel nt env a → Sat w0 w L → Oper.wp P ⟨dst, op, ty, pos, after, g⟩ a w (fun a' w' => ∃ env' L', Sat w0 w' L' ∧ Rel nt env' a' ∧ Ent L' Lr ∧ SWH P w0 nt Lr L' env' ops (listed.setIfInBounds i true) order Q) Q) :
    SWH P w0 nt Lr L env ops listed ((i, false) :: order) Q := .mk fun hok hs he w a hw hr => by
  simp only [hOK, Bool.and_eq_true, beq_iff_eq] at hok
  refine wpAnyH_all hok.1 (by simp) fun i' hi' => ?_
  obtain rfl : i' = i := by simpa using hi'
  unfold wpOp
  simp only [hi]
  rw [if_pos (hg a hr)]
  refine .inl (Oper.wp_mono ?_ (h a w hr hw))
  rintro a' w' ⟨env', L', h1, h2, h3, h4⟩
  exact ⟨h1.ent h3, h4.h hok.2 hs h3 w' a' h1 h2⟩

theorem swh_hr {v : Value} {g : Option (Nat × Bool)} (hi : ops[i]? = some ⟨dst, op, ty, pos, after, g⟩)
    (hg : ∀ a, Rel nt env a → Region.wanted ⟨dst, op, ty, pos, after, g⟩ (yielded ops a.tmps) = true)
    (h : OpR P w0 nt L env op ty v) (hd : dstOk nt dst = true) (he : Ent L Lr) (k : SWH P w0 nt Lr L (putE env dst v) ops (listed.setIfInBounds i true) order Q) :
    SWH P w0 nt Lr L env ops listed ((i, false) :: order) Q := swh_heavy hi hg fun a w hr hs => by
  rw [Oper.wp, h.h _ rfl rfl a hr w hs]
  exact ⟨_, _, hs, hr.put hd v, he, k⟩

theorem swh_w {K : Value → List HP → Prop} {g : Option (Nat × Bool)} (hi : ops[i]? = some ⟨dst, op, ty, pos, after, g⟩)
    (hg : ∀ a, Rel nt env a → Region.wanted ⟨dst, op, ty, pos, after, g⟩ (yielded ops a.tmps) = true)
    (h : OpW P w0 nt L env op ty K) (hd : dstOk nt dst = true) (k : ∀ v L', K v L' → Ent L' Lr ∧ SWH P w0 nt Lr L' (putE env dst v) ops (listed.setIfInBounds i true) order Q) :
    SWH P w0 nt Lr L env ops listed ((i, false) :: order) Q := swh_heavy hi hg fun a w hr hs => by
  obtain ⟨v, w', L', h1, h2, h3⟩ := h.h ⟨dst, op, ty, pos, after, g⟩ rfl rfl a hr w hs
  obtain ⟨h4, h5⟩ := k v L' h3
  rcases h1 with h1 | ⟨rfl, h1⟩ <;> rw [Oper.wp, h1] <;> exact ⟨_, L', h2, hr.put hd _, h4, h5⟩

theorem swh_c {K : Value → List HP → Prop} {g : Option (Nat × Bool)} (hi : ops[i]? = some ⟨dst, op, ty, pos, after, g⟩)
    (hg : ∀ a, Rel nt env a → Region.wanted ⟨dst, op, ty, pos, after, g⟩ (yielded ops a.tmps) = true)
    (h : OpC P w0 nt L env op ty K) (hd : dstOk nt dst = true) (k : ∀ v L', K v L' → Ent L' Lr ∧ SWH P w0 nt Lr L' (putE env dst v) ops (listed.setIfInBounds i true) order Q) :
    SWH P w0 nt Lr L env ops listed ((i, false) :: order) Q := swh_heavy hi hg fun a w hr hs => by
  obtain ⟨f, args, h1, h2⟩ := h.h ⟨dst, op, ty, pos, after, g⟩ rfl rfl a hr w hs
  rw [Oper.wp, h1]
  refine Calls.mono h2 fun e w' ⟨v, L', he, h3, h4⟩ => ?_
  subst he
  obtain ⟨h5, h6⟩ := k v L' h4
  exact ⟨_, L', h3, hr.put hd v, h5, h6⟩

theorem wanted_none {a : Act} : Region.wanted ⟨dst, op, ty, pos, after, none⟩ (yielded ops a.tmps) = true := by simp [Region.wanted]
theorem wanted_on {j d : Nat} {want : Bool} (hj : (ops[j]?).bind (·.dst) = some d) (hb : env.get d = some (.bool want)) (a : Act) (hr : Rel nt env a) :
    Region.wanted ⟨dst, op, ty, pos, after, some (j, want)⟩ (yielded ops a.tmps) = true := by simp [Region.wanted, yielded_of hr hj hb]

theorem swh_split {d : Nat} {p : Prop} [Decidable p] (hb : env.get d = some (.bool (decide p))) (ht : p → SWH P w0 nt Lr L ((d, .bool true) :: env) ops listed order Q)
    (hf : ¬ p → SWH P w0 nt Lr L ((d, .bool false) :: env) ops listed order Q) : SWH P w0 nt Lr L env ops listed order Q := .mk fun hok hs he w a hw hr => by
  by_cases hp : p
  · exact (ht hp).h hok hs he w a hw (hr.sub (get_over (by simpa [hp] using hb)))
  · exact (hf hp).h hok hs he w a hw (hr.sub (get_over (by simpa [hp] using hb)))
theorem swh_splitn {d : Nat} {p : Prop} [Decidable p] (hb : env.get d = some (.bool (!decide p))) (ht : ¬ p → SWH P w0 nt Lr L ((d, .bool true) :: env) ops listed order Q)
    (hf : p → SWH P w0 nt Lr L ((d, .bool false) :: env) ops listed order Q) : SWH P w0 nt Lr L env ops listed order Q := .mk fun hok hs he w a hw hr => by
  by_cases hp : p
  · exact (hf hp).h hok hs he w a hw (hr.sub (get_over (by simpa [hp] using hb)))
  · exact (ht hp).h hok hs he w a hw (hr.sub (get_over (by simpa [hp] using hb)))
theorem swh_splitb {d : Nat} {t : Bool} (hb : env.get d = some (.bool t)) (ht : t = true → SWH P w0 nt Lr L ((d, .bool true) :: env) ops listed order Q)
    (hf : t = false → SWH P w0 nt Lr L ((d, .bool false) :: env) ops listed order Q) : SWH P w0 nt Lr L env ops listed order Q := .mk fun hok hs he w a hw hr => by
  cases t
  · exact (hf rfl).h hok hs he w a hw (hr.sub (get_over hb))
  · exact (ht rfl).h hok hs he w a hw (hr.sub (get_over hb))

/-! ### One operation of either kind of list -/

/-- The operation may be gone, reading Lr, with L at hand; behind it N holds. -/
inductive S1 (P : Program) (w0 : World) (nt : Cx) (Lr L : List HP) (env : Env) (op : Op) (ty : TypeId) (dst : Option Tmp) (heavy : Bool) (N : Env → List HP → Prop) : Prop
  | r {v : Value} (h : OpR P w0 nt Lr env op ty v) (hd : dstOk nt dst = true) (k : N (putE env dst v) L) : S1 P w0 nt Lr L env op ty dst heavy N
  | w {K : Value → List HP → Prop} (hh : heavy = true) (h : OpW P w0 nt L env op ty K) (hd : dstOk nt dst = true) (k : ∀ v L', K v L' → N (putE env dst v) L') : S1 P w0 nt Lr L env op ty dst heavy N
  | c {K : Value → List HP → Prop} (hh : heavy = true) (h : OpC P w0 nt L env op ty K) (hd : dstOk nt dst = true) (k : ∀ v L', K v L' → N (putE env dst v) L') : S1 P w0 nt Lr L env op ty dst heavy N

theorem swl_op (h : S1 P w0 nt L L env op ty dst true (fun env' L' => SWL P w0 nt L' env' ops rest Q)) : SWL P w0 nt L env ops (⟨dst, op, ty, pos, after, none⟩ :: rest) Q := by
  cases h with
  | r h hd k => exact swl_r h hd k
  | w _ h hd k => exact swl_w h hd k
  | c _ h hd k => exact swl_c h hd k

theorem swh_lt [PanicOK Q] {g : Option (Nat × Bool)} (hi : ops[i]? = some ⟨dst, op, ty, pos, after, g⟩)
    (hg : ∀ a, Rel nt env a → Region.wanted ⟨dst, op, ty, pos, after, g⟩ (yielded ops a.tmps) = true)
    (h : S1 P w0 nt Lr L env op ty dst false (fun env' L' => SWH P w0 nt Lr L' env' ops (listed.setIfInBounds i true) order Q)) : SWH P w0 nt Lr L env ops listed ((i, true) :: order) Q := by
  cases h with
  | r h hd k => exact swh_r hi hg h hd k
  | w hh => cases hh
  | c hh => cases hh

theorem swh_hv {g : Option (Nat × Bool)} (hi : ops[i]? = some ⟨dst, op, ty, pos, after, g⟩)
    (hg : ∀ a, Rel nt env a → Region.wanted ⟨dst, op, ty, pos, after, g⟩ (yielded ops a.tmps) = true)
    (h : S1 P w0 nt L L env op ty dst true (fun env' L' => Ent L' Lr ∧ SWH P w0 nt Lr L' env' ops (listed.setIfInBounds i true) order Q)) : SWH P w0 nt Lr L env ops listed ((i, false) :: order) Q := by
  cases h with
  | r h hd k => exact swh_hr hi hg h hd k.1 k.2
  | w _ h hd k => exact swh_w hi hg h hd k
  | c _ h hd k => exact swh_c hi hg h hd k

theorem s1_c {heavy : Bool} {N : Env → List HP → Prop} {K : Value → List HP → Prop} (h : OpC P w0 nt L env op ty K) (hh : heavy = true) (hd : dstOk nt dst = true) (k : ∀ v L', K v L' → N (putE env dst v) L') :
    S1 P w0 nt Lr L env op ty dst heavy N := .c hh h hd k

/-- the same, marked with the operation's kind: so that a walk tries few laws at each -/
structure SC (P : Program) (w0 : World) (nt : Cx) (Lr L : List HP) (env : Env) (op : Op) (ty : TypeId) (dst : Option Tmp) (heavy : Bool) (N : Env → List HP → Prop) : Prop where
  h : S1 P w0 nt Lr L env op ty dst heavy N
section
variable {heavy : Bool} {N : Env → List HP → Prop}
theorem sc_r {v : Value} (h : OpR P w0 nt Lr env op ty v) (hd : dstOk nt dst = true) (k : N (putE env dst v) L) : SC P w0 nt Lr L env op ty dst heavy N := ⟨.r h hd k⟩
theorem sc_w {K : Value → List HP → Prop} (hh : heavy = true) (h : OpW P w0 nt L env op ty K) (hd : dstOk nt dst = true) (k : ∀ v L', K v L' → N (putE env dst v) L') : SC P w0 nt Lr L env op ty dst heavy N := ⟨.w hh h hd k⟩
theorem sc_c {K : Value → List HP → Prop} (hh : heavy = true) (h : OpC P w0 nt L env op ty K) (hd : dstOk nt dst = true) (k : ∀ v L', K v L' → N (putE env dst v) L') : SC P w0 nt Lr L env op ty dst heavy N := ⟨.c hh h hd k⟩
theorem s1_move {x : Operand} (h : SC P w0 nt Lr L env (.move x) ty dst heavy N) : S1 P w0 nt Lr L env (.move x) ty dst heavy N := h.h
theorem s1_assign {x : Operand} (h : SC P w0 nt Lr L env (.assign x) ty dst heavy N) : S1 P w0 nt Lr L env (.assign x) ty dst heavy N := h.h
theorem s1_pick {x y z : Operand} (h : SC P w0 nt Lr L env (.pick x y z) ty dst heavy N) : S1 P w0 nt Lr L env (.pick x y z) ty dst heavy N := h.h
theorem s1_load {t : TypeId} {x : Operand} (h : SC P w0 nt Lr L env (.load t x) ty dst heavy N) : S1 P w0 nt Lr L env (.load t x) ty dst heavy N := h.h
theorem s1_store {t : TypeId} {x y : Operand} (h : SC P w0 nt Lr L env (.store t x y) ty dst heavy N) : S1 P w0 nt Lr L env (.store t x y) ty dst heavy N := h.h
theorem s1_fieldAddr {t : TypeId} {x : Operand} {k : Nat} (h : SC P w0 nt Lr L env (.fieldAddr t x k) ty dst heavy N) : S1 P w0 nt Lr L env (.fieldAddr t x k) ty dst heavy N := h.h
theorem s1_indexAddr {t : TypeId} {x y : Operand} (h : SC P w0 nt Lr L env (.indexAddr t x y) ty dst heavy N) : S1 P w0 nt Lr L env (.indexAddr t x y) ty dst heavy N := h.h
theorem s1_bin {o : BinOp} {t t' : TypeId} {x y : Operand} (h : SC P w0 nt Lr L env (.binOp o t x y t') ty dst heavy N) : S1 P w0 nt Lr L env (.binOp o t x y t') ty dst heavy N := h.h
theorem s1_call {c : Call} (h : SC P w0 nt Lr L env (.call c) ty dst heavy N) : S1 P w0 nt Lr L env (.call c) ty dst heavy N := h.h
theorem s1_conv {t t' : TypeId} {x : Operand} (h : SC P w0 nt Lr L env (.convert t t' x) ty dst heavy N) : S1 P w0 nt Lr L env (.convert t t' x) ty dst heavy N := h.h
theorem s1_slice {t : TypeId} {x : Operand} {lo hi mx : Option Operand} (h : SC P w0 nt Lr L env (.slice t x lo hi mx) ty dst heavy N) : S1 P w0 nt Lr L env (.slice t x lo hi mx) ty dst heavy N := h.h
theorem s1_alloc {t : TypeId} (h : SC P w0 nt Lr L env (.alloc t) ty dst heavy N) : S1 P w0 nt Lr L env (.alloc t) ty dst heavy N := h.h
theorem s1_box {t : TypeId} {x : Operand} (h : SC P w0 nt Lr L env (.box t x) ty dst heavy N) : S1 P w0 nt Lr L env (.box t x) ty dst heavy N := h.h
/-- any other -/
theorem s1_any (h : SC P w0 nt Lr L env op ty dst heavy N) : S1 P w0 nt Lr L env op ty dst heavy N := h.h
end

/-! ### A function's beginning and end -/

/-- What stands behind a function's body. -/
def FQ (P : Program) (w0 : World) (fn : Func) (R : Value → List HP → Prop) : Exit → Act → World → Prop
  | .normal, a, w | .ret, a, w => LeavesInM Fence.wide 0 P fn a.tmps (fun e w' => ∃ v L', e = .returned v ∧ Sat w0 w' L' ∧ R v L') a.defers .returning w
  | _, _, _ => False

instance PanicOK.fq {fn : Func} {R : Value → List HP → Prop} : PanicOK (FQ P w0 fn R) := ⟨fun _ _ _ _ _ H => H.elim, fun _ _ H => H⟩

def argsE : Nat → List Value → Env
  | _, [] => []
  | n, v :: l => (n, v) :: argsE (n + 1) l

theorem argsE_get : ∀ (l : List Value) (n t : Nat) (v : Value), (argsE n l).get t = some v → n ≤ t ∧ l[t - n]? = some v
  | [], _, _, _, h => by simp [argsE, Env.get] at h
  | u :: l, n, t, v, h => by
    simp only [argsE, Env.get] at h
    by_cases e : n = t
    · subst e; simp at h; simp [h]
    · have : Nat.beq n t = false := nbeq_ne e
      simp [this] at h
      obtain ⟨h1, h2⟩ := argsE_get l (n + 1) t v h
      refine ⟨by omega, ?_⟩
      rw [show t - n = (t - (n + 1)) + 1 by omega]
      simpa using h2

theorem tr_enter {nt : Nat} {f : FuncId} {fn : Func} {c : Code} {args : List Value} {R : Value → List HP → Prop} (hf : P.funcs[f]? = some fn) (hb : fn.body = some c) (hn : fn.ntmps = nt) (hle : Nat.ble args.length nt = true)
    (h : ∀ w0, SW P w0 ⟨nt, [], none⟩ L (argsE 0 args) c (FQ P w0 fn R)) : Tr P f args.toArray L R := .mk fun w0 w hs => by
  have hle' : args.length ≤ nt := by simpa using hle
  refine callsIn_wide.1 (callsIn_of_wp_marks (n := 0) hf hb trivial (wpIn_mono ((h w0).h w _ hs ⟨rfl, by simp [hn]; omega, fun t v hv => ?_⟩) fun e a' w' hq => by cases e <;> first | exact hq | exact hq.elim))
  obtain ⟨_, h2⟩ := argsE_get args 0 t v hv
  have hlt : t < args.length := by
    rcases Nat.lt_or_ge t args.length with h' | h'
    · exact h'
    · simp [List.getElem?_eq_none h'] at h2
  rw [Array.getElem?_append_left (by simpa using hlt)]
  simpa using h2

def resSem (tmps : Array Value) : ResultVar → Sem Value
  | .tmp t => pure (tmps.getD t undef)
  | .cell a t => do loadVar t (← asAddr (tmps.getD a undef))

theorem results_eq (fn : Func) (tmps : Array Value) : results fn tmps = (do let vs ← fn.results.mapM (resSem tmps); pure (if h : vs.size = 1 then vs[0] else .tuple vs)) := rfl

/-- One result. -/
structure ResOne (P : Program) (w0 : World) (nt : Cx) (L : List HP) (env : Env) (r : ResultVar) (v : Value) : Prop where
  h : ∀ a w, Rel nt env a → Sat w0 w L → (resSem a.tmps r).run P w = .ok v w

theorem ResOne.tmp {t : Nat} {v : Value} (h : env.get t = some v) : ResOne P w0 nt L env (.tmp t) v := .mk fun a w hr _ => by
  simp [resSem, Array.getD_eq_getD_getElem?, hr.get t v h]

theorem sx_ret_of {fn : Func} {R : Value → List HP → Prop} {v : Value} (hres : ∀ a w, Rel nt env a → Sat w0 w L → (results fn a.tmps).run P w = .ok v w) (L' : List HP) (hR : R v L') (he : Ent L L') (hd : nt.ds = [] := by rfl) :
    SX w0 nt L env .ret (FQ P w0 fn R) := .mk fun w a hs hr => by
  have h0 : a.defers = [] := hr.defers.trans hd
  show LeavesInM _ _ _ _ _ _ a.defers _ _
  rw [h0]
  exact ⟨v, hres a w hr hs, v, L', rfl, hs.ent he, hR⟩
theorem sx_end_of {fn : Func} {R : Value → List HP → Prop} {v : Value} (hres : ∀ a w, Rel nt env a → Sat w0 w L → (results fn a.tmps).run P w = .ok v w) (L' : List HP) (hR : R v L') (he : Ent L L') (hd : nt.ds = [] := by rfl) :
    SX w0 nt L env .normal (FQ P w0 fn R) := .mk fun w a hs hr => by
  have h0 : a.defers = [] := hr.defers.trans hd
  show LeavesInM _ _ _ _ _ _ a.defers _ _
  rw [h0]
  exact ⟨v, hres a w hr hs, v, L', rfl, hs.ent he, hR⟩

theorem res0 {fn : Func} (hf : fn.results = #[]) (a : Act) (w : World) (_ : Rel nt env a) (_ : Sat w0 w L) : (results fn a.tmps).run P w = .ok (.tuple #[]) w := by
  simp [results_eq, hf]
theorem res1 {fn : Func} {r : ResultVar} {v : Value} (hf : fn.results = #[r]) (h : ResOne P w0 nt L env r v) (a : Act) (w : World) (hr : Rel nt env a) (hs : Sat w0 w L) : (results fn a.tmps).run P w = .ok v w := by
  simp [results_eq, hf, h.h a w hr hs]
theorem res2 {fn : Func} {r s : ResultVar} {v u : Value} (hf : fn.results = #[r, s]) (h : ResOne P w0 nt L env r v) (k : ResOne P w0 nt L env s u) (a : Act) (w : World) (hr : Rel nt env a) (hs : Sat w0 w L) :
    (results fn a.tmps).run P w = .ok (.tuple #[v, u]) w := by
  simp [results_eq, hf, h.h a w hr hs, k.h a w hr hs]
theorem res3 {fn : Func} {r s t : ResultVar} {v u x : Value} (hf : fn.results = #[r, s, t]) (h : ResOne P w0 nt L env r v) (k : ResOne P w0 nt L env s u) (k3 : ResOne P w0 nt L env t x) (a : Act) (w : World) (hr : Rel nt env a) (hs : Sat w0 w L) :
    (results fn a.tmps).run P w = .ok (.tuple #[v, u, x]) w := by
  simp [results_eq, hf, h.h a w hr hs, k.h a w hr hs, k3.h a w hr hs]

/-! ### Contracts -/

theorem Tr.weaken {f : FuncId} {args : Array Value} {R R' : Value → List HP → Prop} (h : Tr P f args L R) (k : ∀ v L', R v L' → ∃ L'', Ent L' L'' ∧ R' v L'') : Tr P f args L R' := .mk fun w0 w hs =>
  (h.h w0 w hs).mono fun _ _ ⟨v, L', he, h1, h2⟩ => let ⟨L'', e, h3⟩ := k v L' h2; ⟨v, L'', he, h1.ent e, h3⟩
theorem Tr.ent {f : FuncId} {args : Array Value} {L' : List HP} {R : Value → List HP → Prop} (e : Ent L L') (h : Tr P f args L' R) : Tr P f args L R := .mk fun w0 w hs => h.h w0 w (hs.ent e)

/-- Over all that the world holds: what was there stays. -/
theorem Tr.below {f : FuncId} {args : Array Value} {W : World} {v : Value} (h : Tr P f args [whole W] fun u L' => u = v ∧ L' = [whole W]) :
    Calls P f args W fun e w' => e = .returned v ∧ RowKit.Below W.heap.size W w' :=
  (h.h W W (Sat.start W)).mono fun _ _ ⟨_, _, he, h1, h2, h3⟩ => by subst h2; subst h3; exact ⟨he, h1.below⟩
end
end Go.SL

/-
  OWN BASE, PART 3: one law an operation.
-/
namespace Go.SL
open Go

/-! ### Facts of a program, found by their numbers -/
class Und (P : Program) (t : TypeId) (d : outParam TypeDesc) : Prop where
  h : P.underlying t = some d
class SizeC (P : Program) (t : TypeId) (n : outParam Nat) : Prop where
  h : ∀ w, (sizeOf t).run P w = .ok n w
class AggC (P : Program) (t : TypeId) (b : outParam Bool) : Prop where
  h : ∀ w, (isAgg t).run P w = .ok b w
class ZeroC (P : Program) (t : TypeId) (v : outParam Value) : Prop where
  h : ∀ w, (zeroValue t).run P w = .ok v w
class InfoC (P : Program) (t : TypeId) (i : outParam TypeInfo) : Prop where
  h : ∀ w, (typeInfo t).run P w = .ok i w
/-- field k of struct type s lies at cell off -/
class FieldC (P : Program) (s : TypeId) (k : Nat) (off : outParam Nat) : Prop where
  h : ∃ fs f n, P.underlying s = some (.struct fs) ∧ fs[k]? = some f ∧ f.offset = off ∧ (∀ w, (sizeOf f.type).run P w = .ok n w) ∧ Nat.beq n 0 = false
/-- struct type t: where its fields lie -/
class BuildC (P : Program) (t : TypeId) (pl : outParam (Array (Nat × Nat))) : Prop where
  h : ∃ fs, P.underlying t = some (.struct fs) ∧ ∀ w, ((fs.mapM fun f => do pure (f.offset, ← sizeOf f.type) : Sem (Array (Nat × Nat)))).run P w = .ok pl w
class NotIface (P : Program) (t : TypeId) : Prop where
  h : ∃ d, P.underlying t = some d ∧ (match d with | .interface _ => true | _ => false) = false
class CallC (P : Program) (f : FuncId) : Prop where
  h : ∀ args w, (callFunc f args).run P w = .ok (.enter f args) w

section
variable {P : Program} {w0 : World} {nt : Cx} {L L' : List HP} {env : Env} {ty : TypeId}

theorem addr_add (b off n : Nat) : (⟨b, off, none⟩ : Addr).add n = ⟨b, off + n, none⟩ := by
  unfold Addr.add; split
  · subst_vars; rfl
  · rfl

theorem run_und {t : TypeId} {d : TypeDesc} [h : Und P t d] (w : World) : (underlying t).run P w = .ok d w := run_underlying h.h w

/-! ### copies -/
theorem R_move {x : Operand} {v : Value} (hx : evO env x = some v) : OpR P w0 nt L env (.move x) ty v := .mk fun o ho _ a hr w _ => by
  simp [execOp, ho, hr.eval hx]
theorem R_assign {x : Operand} {v : Value} (hx : evO env x = some v) : OpR P w0 nt L env (.assign x) ty v := .mk fun o ho _ a hr w _ => by
  simp [execOp, ho, hr.eval hx]
theorem R_pick_t {c x y : Operand} {v : Value} (hc : evO env c = some (.bool true)) (hx : evO env x = some v) : OpR P w0 nt L env (.pick c x y) ty v := .mk fun o ho _ a hr w _ => by
  simp [execOp, ho, hr.eval hc, hr.eval hx, asBool]
theorem R_pick_f {c x y : Operand} {v : Value} (hc : evO env c = some (.bool false)) (hy : evO env y = some v) : OpR P w0 nt L env (.pick c x y) ty v := .mk fun o ho _ a hr w _ => by
  simp [execOp, ho, hr.eval hc, hr.eval hy, asBool]
theorem R_pick_b {c x y : Operand} {b p q : Bool} (hc : evO env c = some (.bool b)) (hx : evO env x = some (.bool p)) (hy : evO env y = some (.bool q)) : OpR P w0 nt L env (.pick c x y) ty (.bool (if b then p else q)) := .mk fun o ho _ a hr w _ => by
  cases b <;> simp [execOp, ho, hr.eval hc, hr.eval hx, hr.eval hy, asBool]
theorem R_extract {x : Operand} {i : Nat} {vs : Array Value} {v : Value} (hx : evO env x = some (.tuple vs)) (hv : vs[i]? = some v) : OpR P w0 nt L env (.extract x i) ty v := .mk fun o ho _ a hr w _ => by
  simp [execOp, ho, hr.eval hx, Instr.extract, hv]
theorem R_makeInterface {t : TypeId} {x : Operand} {v : Value} [hu : NotIface P t] (hx : evO env x = some v) : OpR P w0 nt L env (.makeInterface t x) ty (.iface t v) := .mk fun o ho _ a hr w _ => by
  obtain ⟨d, hU, hd⟩ := hu.h
  simp only [execOp, ho, hr.eval hx, Instr.makeInterface, Sem.run_bind, run_underlying hU, Result.andThen_ok]
  cases d <;> simp_all
def evL (env : Env) : List Operand → Option (List Value)
  | [] => some []
  | x :: r => match evO env x, evL env r with
    | some v, some vs => some (v :: vs)
    | _, _ => none
theorem evL_map {a : Act} (hr : Rel nt env a) : ∀ {l : List Operand} {vs : List Value}, evL env l = some vs → l.map a.eval = vs
  | [], vs, h => by simp [evL] at h; simp [h]
  | x :: r, vs, h => by
    simp only [evL] at h
    split at h
    · rename_i v us h1 h2
      obtain rfl := Option.some.inj h
      simp [hr.eval h1, evL_map hr h2]
    · cases h
theorem R_makeFunc {fn : Fn} {f c : List Operand} {fs cs : List Value} (hf : evL env f = some fs) (hc : evL env c = some cs) : OpR P w0 nt L env (.makeFunc fn f.toArray c.toArray) ty (.func fn fs.toArray cs.toArray) := .mk fun o ho _ a hr w _ => by
  simp [execOp, ho, Instr.makeFunc, evL_map hr hf, evL_map hr hc]

theorem R_nilCheck {x : Operand} {p : Addr} (hx : evO env x = some (.pointer (some p))) : OpR P w0 nt L env (.nilCheck x) ty (.pointer (some p)) := .mk fun o ho _ a hr w _ => by
  simp [execOp, ho, hr.eval hx]
theorem R_nilCheck_func {x : Operand} {f : FuncId} {fi c : Array Value} (hx : evO env x = some (.func (.func f) fi c)) : OpR P w0 nt L env (.nilCheck x) ty (.func (.func f) fi c) := .mk fun o ho _ a hr w _ => by
  simp [execOp, ho, hr.eval hx]

/-! ### addresses -/
theorem R_fieldAddr {s : TypeId} {x : Operand} {k b off fo : Nat} [hu : FieldC P s k fo] (hx : evO env x = some (.pointer (some ⟨b, off, none⟩))) :
    OpR P w0 nt L env (.fieldAddr s x k) ty (.pointer (some ⟨b, off + fo, none⟩)) := .mk fun o ho _ a hr w _ => by
  obtain ⟨fs, f, n, hU, hf, rfl, hz, hn⟩ := hu.h
  have : n ≠ 0 := ne_of_nbeq hn
  simp [execOp, ho, hr.eval hx, Instr.fieldAt, run_underlying hU, hf, Instr.sureAddr, fieldPlace, hz, this, addr_add]

theorem R_indexAddr {t e : TypeId} {x i : Operand} {b off len cap n : Nat} {k : IntKind} {j : Int} [hu : Und P t (.slice e)] [hz : SizeC P e n] (hx : evO env x = some (.slice (some ⟨b, off, none⟩) len cap))
    (hi : evO env i = some (.int k j)) (hj : 0 ≤ j ∧ j < len) : OpR P w0 nt L env (.indexAddr t x i) ty (.pointer (some ⟨b, off + j.toNat * n, none⟩)) := .mk fun o ho _ a hr w _ => by
  simp [execOp, ho, hr.eval hx, hr.eval hi, Instr.indexAt, run_underlying hu.h, asIntOf, hj.1, hj.2, hz.h, addr_add]

theorem R_indexAddr_arr {t e : TypeId} {x i : Operand} {b off len n : Nat} {k : IntKind} {j : Int} [hu : Und P t (.array len e)] [hz : SizeC P e n] (hx : evO env x = some (.pointer (some ⟨b, off, none⟩)))
    (hi : evO env i = some (.int k j)) (hj : 0 ≤ j ∧ j < len) : OpR P w0 nt L env (.indexAddr t x i) ty (.pointer (some ⟨b, off + j.toNat * n, none⟩)) := .mk fun o ho _ a hr w _ => by
  simp [execOp, ho, hr.eval hx, hr.eval hi, Instr.indexAt, run_underlying hu.h, Instr.sureAddr, asIntOf, hj.1, hj.2, hz.h, addr_add]

/-! ### reading memory -/
theorem run_load_of {b off : Nat} {c : Array Value} {T : TypeId} {fr : Nat × Nat} {v : Value} {w : World} (hs : Sat w0 w L) (hr : Reads L b (.cells c T fr)) (hv : c[off]? = some v) :
    (load ⟨b, off, none⟩).run P w = .ok v w := by
  simp [run_load, cell?_of (hs.read hr), hv]

theorem R_load {t : TypeId} {x : Operand} {b off : Nat} {c : Array Value} {T : TypeId} {fr : Nat × Nat} {v : Value} [hg : AggC P t false] (hx : evO env x = some (.pointer (some ⟨b, off, none⟩)))
    (hr : Reads L b (.cells c T fr)) (hv : c[off]? = some v) : OpR P w0 nt L env (.load t x) ty v := .mk fun o ho _ a ha w hs => by
  simp [execOp, ho, ha.eval hx, Instr.loadAt, Instr.sureAddr, loadVar, hg.h, cell?_of (hs.read hr), hv]

theorem run_loadCells_of {b off n : Nat} {c : Array Value} {T : TypeId} {fr : Nat × Nat} {w : World} (hb : w.heap[b]? = some (.cells c T fr)) (hle : off + n ≤ c.size) :
    (loadCells ⟨b, off, none⟩ n).run P w = .ok (c.extract off (off + n)) w := by
  have key := run_loadCells_list (P := P) w ⟨b, off, none⟩ (c.extract off (off + n)).toList (fun j v hv => by
    rw [addr_add, cell?_of hb]
    rw [Array.getElem?_toList, Array.getElem?_extract] at hv
    split at hv
    · exact hv
    · cases hv)
  have hlen : (c.extract off (off + n)).toList.length = n := by rw [Array.length_toList, Array.size_extract]; omega
  rw [hlen, Array.toArray_toList] at key
  exact key

theorem R_load_agg {t : TypeId} {x : Operand} {b off n : Nat} {c cs : Array Value} {T : TypeId} {fr : Nat × Nat} [hg : AggC P t true] [hz : SizeC P t n] (hx : evO env x = some (.pointer (some ⟨b, off, none⟩)))
    (hr : Reads L b (.cells c T fr)) (hle : off + n ≤ c.size) (hv : c.extract off (off + n) = cs) : OpR P w0 nt L env (.load t x) ty (.agg cs) := .mk fun o ho _ a ha w hs => by
  simp [execOp, ho, ha.eval hx, Instr.loadAt, Instr.sureAddr, loadVar, hg.h, hz.h, run_loadCells_of (hs.read hr) hle, hv]

/-! ### numbers -/
section
variable {t t' : TypeId} {x y : Operand} {k : IntKind} {a b : Int}
theorem R_add (hx : evO env x = some (.int k a)) (hy : evO env y = some (.int k b)) : OpR P w0 nt L env (.binOp .add t x y t') ty (.int k (k.wrap (a + b))) := .mk fun o ho _ s hr w _ => by
  simp [execOp, ho, hr.eval hx, hr.eval hy, eqGuard_add, binOp_add, Op.intArith]
theorem R_sub (hx : evO env x = some (.int k a)) (hy : evO env y = some (.int k b)) : OpR P w0 nt L env (.binOp .sub t x y t') ty (.int k (k.wrap (a - b))) := .mk fun o ho _ s hr w _ => by
  simp [execOp, ho, hr.eval hx, hr.eval hy, eqGuard_sub, binOp_sub, Op.intArith]
theorem R_mul (hx : evO env x = some (.int k a)) (hy : evO env y = some (.int k b)) : OpR P w0 nt L env (.binOp .mul t x y t') ty (.int k (k.wrap (a * b))) := .mk fun o ho _ s hr w _ => by
  simp [execOp, ho, hr.eval hx, hr.eval hy, eqGuard_mul, binOp_mul, Op.intArith]
theorem R_lss (hx : evO env x = some (.int k a)) (hy : evO env y = some (.int k b)) : OpR P w0 nt L env (.binOp .lss t x y t') ty (.bool (decide (a < b))) := .mk fun o ho _ s hr w _ => by
  simp [execOp, ho, hr.eval hx, hr.eval hy, eqGuard_lss, binOp_lss]
theorem R_leq (hx : evO env x = some (.int k a)) (hy : evO env y = some (.int k b)) : OpR P w0 nt L env (.binOp .leq t x y t') ty (.bool (decide (a ≤ b))) := .mk fun o ho _ s hr w _ => by
  simp [execOp, ho, hr.eval hx, hr.eval hy, eqGuard_leq, binOp_leq]
theorem R_gtr (hx : evO env x = some (.int k a)) (hy : evO env y = some (.int k b)) : OpR P w0 nt L env (.binOp .gtr t x y t') ty (.bool (decide (b < a))) := .mk fun o ho _ s hr w _ => by
  simp [execOp, ho, hr.eval hx, hr.eval hy, eqGuard_gtr, binOp_gtr]
theorem R_geq (hx : evO env x = some (.int k a)) (hy : evO env y = some (.int k b)) : OpR P w0 nt L env (.binOp .geq t x y t') ty (.bool (decide (b ≤ a))) := .mk fun o ho _ s hr w _ => by
  simp [execOp, ho, hr.eval hx, hr.eval hy, eqGuard_geq, binOp_geq]
theorem int_beq (a b : Int) : (a == b) = decide (a = b) := by by_cases h : a = b <;> simp [h]
theorem R_eql (hx : evO env x = some (.int k a)) (hy : evO env y = some (.int k b)) : OpR P w0 nt L env (.binOp .eql t x y t') ty (.bool (decide (a = b))) := .mk fun o ho _ s hr w _ => by
  simp [execOp, ho, hr.eval hx, hr.eval hy, eqGuard_at_int, binOp_eql, int_beq]
theorem R_neq (hx : evO env x = some (.int k a)) (hy : evO env y = some (.int k b)) : OpR P w0 nt L env (.binOp .neq t x y t') ty (.bool (!decide (a = b))) := .mk fun o ho _ s hr w _ => by
  simp [execOp, ho, hr.eval hx, hr.eval hy, eqGuard_at_int, binOp_neq, bne, int_beq]

theorem wrap_i64_of {n : Int} (h : -9223372036854775808 ≤ n ∧ n ≤ 9223372036854775807) : IntKind.i64.wrap n = n := by
  simp [IntKind.wrap, IntKind.bits, IntKind.signed]; omega
theorem wrap_u8_of {n : Int} (h : 0 ≤ n ∧ n ≤ 255) : IntKind.u8.wrap n = n := by
  simp [IntKind.wrap, IntKind.bits, IntKind.signed]; omega
theorem wrap_u32_of {n : Int} (h : 0 ≤ n ∧ n ≤ 4294967295) : IntKind.u32.wrap n = n := by
  simp [IntKind.wrap, IntKind.bits, IntKind.signed]; omega
theorem R_add64 (hx : evO env x = some (.int .i64 a)) (hy : evO env y = some (.int .i64 b)) (h : -9223372036854775808 ≤ a + b ∧ a + b ≤ 9223372036854775807) : OpR P w0 nt L env (.binOp .add t x y t') ty (.int .i64 (a + b)) := by
  have := R_add (P := P) (w0 := w0) (nt := nt) (L := L) (env := env) (ty := ty) (t := t) (t' := t') hx hy
  rwa [wrap_i64_of h] at this
theorem R_sub64 (hx : evO env x = some (.int .i64 a)) (hy : evO env y = some (.int .i64 b)) (h : -9223372036854775808 ≤ a - b ∧ a - b ≤ 9223372036854775807) : OpR P w0 nt L env (.binOp .sub t x y t') ty (.int .i64 (a - b)) := by
  have := R_sub (P := P) (w0 := w0) (nt := nt) (L := L) (env := env) (ty := ty) (t := t) (t' := t') hx hy
  rwa [wrap_i64_of h] at this
theorem R_mul64 (hx : evO env x = some (.int .i64 a)) (hy : evO env y = some (.int .i64 b)) (h : -9223372036854775808 ≤ a * b ∧ a * b ≤ 9223372036854775807) : OpR P w0 nt L env (.binOp .mul t x y t') ty (.int .i64 (a * b)) := by
  have := R_mul (P := P) (w0 := w0) (nt := nt) (L := L) (env := env) (ty := ty) (t := t) (t' := t') hx hy
  rwa [wrap_i64_of h] at this
theorem R_not {p : Bool} (hx : evO env x = some (.bool p)) : OpR P w0 nt L env (.unOp .not t x) ty (.bool (!p)) := .mk fun o ho _ s hr w _ => by
  simp [execOp, ho, hr.eval hx, Op.unary]
theorem R_neg (hx : evO env x = some (.int k a)) : OpR P w0 nt L env (.unOp .neg t x) ty (.int k (k.wrap (-a))) := .mk fun o ho _ s hr w _ => by
  simp [execOp, ho, hr.eval hx, Op.unary, Op.intArith]
theorem R_conv {k' : IntKind} [hs : NotIface P t] [hd : Und P t' (.int k')] (hx : evO env x = some (.int k a)) : OpR P w0 nt L env (.convert t t' x) ty (.int k' (k'.wrap a)) := .mk fun o ho _ s hr w _ => by
  obtain ⟨d, hU, _⟩ := hs.h
  simp [execOp, ho, hr.eval hx, convert, run_underlying hU, run_underlying hd.h, Conv.intToInt]
theorem R_conv64 [hs : NotIface P t] [hd : Und P t' (.int .i64)] (hx : evO env x = some (.int k a)) (h : -9223372036854775808 ≤ a ∧ a ≤ 9223372036854775807) : OpR P w0 nt L env (.convert t t' x) ty (.int .i64 a) := by
  have := R_conv (P := P) (w0 := w0) (nt := nt) (L := L) (env := env) (ty := ty) (t := t) (t' := t') (k' := .i64) hx
  rwa [wrap_i64_of h] at this
end
section
variable {t t' : TypeId} {x y : Operand}
theorem R_eql_bool {p q : Bool} [hu : Und P t .bool] (hx : evO env x = some (.bool p)) (hy : evO env y = some (.bool q)) : OpR P w0 nt L env (.binOp .eql t x y t') ty (.bool (p == q)) := .mk fun o ho _ s hr w _ => by
  simp [execOp, ho, hr.eval hx, hr.eval hy, eqGuard_at_bool, run_eql_bool w t p q hu.h]
theorem R_neq_bool {p q : Bool} [hu : Und P t .bool] (hx : evO env x = some (.bool p)) (hy : evO env y = some (.bool q)) : OpR P w0 nt L env (.binOp .neq t x y t') ty (.bool (!(p == q))) := .mk fun o ho _ s hr w _ => by
  simp [execOp, ho, hr.eval hx, hr.eval hy, eqGuard_at_bool, run_neq_bool w t p q hu.h]
end

/-! ### structs, one against another -/
theorem run_equalIn_st (w : World) (d : Nat) (t : TypeId) (xs ys : Array Value) (fs : Array Field) (ht : P.underlying t = some (.struct fs)) (hp : P.stoodInHeld t = false) :
    (Op.equalIn (d + 1) t (.agg xs) (.agg ys)).run P w = (Op.eqFields d xs ys fs.toList).run P w := by
  have h : P.fieldsOf t = fs := by simp [Program.fieldsOf, ht]
  rw [run_equalIn_struct w d t xs ys (by rw [h]; exact ht) hp, h]
theorem R_eql_st {t t' : TypeId} {x y : Operand} {xs ys : Array Value} {b : Bool} (hx : evO env x = some (.agg xs)) (hy : evO env y = some (.agg ys)) (hm : P.eqGuardType P.depth t = false)
    (he : ∀ w, (Op.equalIn 10000 t (.agg xs) (.agg ys)).run P w = .ok b w) : OpR P w0 nt L env (.binOp .eql t x y t') ty (.bool b) := .mk fun o ho _ s hr w _ => by
  simp [execOp, ho, hr.eval hx, hr.eval hy, run_eqGuard_agg w .eql t x y xs ys hm, run_eql_struct, he]
theorem R_neq_st {t t' : TypeId} {x y : Operand} {xs ys : Array Value} {b : Bool} (hx : evO env x = some (.agg xs)) (hy : evO env y = some (.agg ys)) (hm : P.eqGuardType P.depth t = false)
    (he : ∀ w, (Op.equalIn 10000 t (.agg xs) (.agg ys)).run P w = .ok b w) : OpR P w0 nt L env (.binOp .neq t x y t') ty (.bool (!b)) := .mk fun o ho _ s hr w _ => by
  simp [execOp, ho, hr.eval hx, hr.eval hy, run_eqGuard_agg w .neq t x y xs ys hm, run_neq_struct, he]

/-! ### len, cap -/
theorem R_len {t e : TypeId} {x : Operand} {p : Option Addr} {n c : Nat} [hu : Und P t (.slice e)] (hx : evO env x = some (.slice p n c)) : OpR P w0 nt L env (.call ⟨.builtin .len, #[x], #[t]⟩) ty (.int .i64 n) := .mk fun o ho _ a hr w _ => by
  simp [execOp, ho, resolve, invoke, builtin, hr.eval hx, Builtin.len_, run_underlying hu.h, goInt]
theorem R_len_str {t : TypeId} {x : Operand} {s : ByteArray} [hu : Und P t .string] (hx : evO env x = some (.string s)) : OpR P w0 nt L env (.call ⟨.builtin .len, #[x], #[t]⟩) ty (.int .i64 s.size) := .mk fun o ho _ a hr w _ => by
  simp [execOp, ho, resolve, invoke, builtin, hr.eval hx, Builtin.len_, run_underlying hu.h, goInt]
theorem R_min {t t' : TypeId} {x y : Operand} {k : IntKind} {a b : Int} (hx : evO env x = some (.int k a)) (hy : evO env y = some (.int k b)) :
    OpR P w0 nt L env (.call ⟨.builtin .min, #[x, y], #[t, t']⟩) ty (.int k (min a b)) := .mk fun o ho _ s hr w _ => by
  simp only [execOp, ho, resolve, invoke, builtin, Builtin.min_, List.map_toArray, List.map_cons, List.map_nil, hr.eval hx, hr.eval hy, List.foldlM_cons, List.foldlM_nil, Builtin.min2, Sem.run_bind, Sem.run_pure, Result.andThen_ok]
  have : (if b < a then b else a) = min a b := by split <;> omega
  rw [this]

/-! ### slices of slices -/
theorem elem_of {t e : TypeId} (h : P.underlying t = some (.slice e)) : P.elem t = e := by simp [Program.elem, h]
theorem R_slice_h {t e : TypeId} {x y : Operand} {p : Option Addr} {n c sz : Nat} {k : IntKind} {h : Int} [hu : Und P t (.slice e)] [hz : SizeC P e sz] (hx : evO env x = some (.slice p n c)) (hy : evO env y = some (.int k h))
    (hh : 0 ≤ h ∧ h ≤ c) : OpR P w0 nt L env (.slice t x none (some y) none) ty (.slice p h.toNat c) := .mk fun o ho _ a hr w _ => by
  have he : P.underlying t = some (.slice (P.elem t)) := by rw [elem_of hu.h]; exact hu.h
  have hz' : ∀ w, (sizeOf (P.elem t)).run P w = .ok sz w := by rw [elem_of hu.h]; exact hz.h
  simp only [execOp, ho, Option.map_some, Option.map_none, hr.eval hx, hr.eval hy, Sem.run_bind, run_sliceAt_slice w t _ _ _ _ he, run_slice_h w t p n c he k h hh.1 hh.2, hz', Result.andThen_ok, sliced]
  by_cases h0 : c = 0
  · simp [h0]
  · cases p <;> simp [h0, Addr.add]
theorem R_slice_l {t e : TypeId} {x y : Operand} {b off n c sz : Nat} {k : IntKind} {l : Int} [hu : Und P t (.slice e)] [hz : SizeC P e sz] (hx : evO env x = some (.slice (some ⟨b, off, none⟩) n c)) (hy : evO env y = some (.int k l))
    (hh : 0 ≤ l ∧ l ≤ n ∧ l < c) : OpR P w0 nt L env (.slice t x (some y) none none) ty (.slice (some ⟨b, off + l.toNat * sz, none⟩) (n - l.toNat) (c - l.toNat)) := .mk fun o ho _ a hr w _ => by
  have he : P.underlying t = some (.slice (P.elem t)) := by rw [elem_of hu.h]; exact hu.h
  have hz' : ∀ w, (sizeOf (P.elem t)).run P w = .ok sz w := by rw [elem_of hu.h]; exact hz.h
  simp only [execOp, ho, Option.map_some, Option.map_none, hr.eval hx, hr.eval hy, Sem.run_bind, run_sliceAt_slice w t _ _ _ _ he, run_slice_l w t _ n c he k l hh.1 hh.2.1, hz', Result.andThen_ok, sliced]
  have : ¬ c = l.toNat := by omega
  simp [this, addr_add]
theorem R_slice_lh {t e : TypeId} {x y z : Operand} {b off n c sz : Nat} {k k' : IntKind} {l h : Int} [hu : Und P t (.slice e)] [hz : SizeC P e sz] (hx : evO env x = some (.slice (some ⟨b, off, none⟩) n c)) (hy : evO env y = some (.int k l))
    (hy' : evO env z = some (.int k' h)) (hh : 0 ≤ l ∧ l ≤ h ∧ h ≤ c ∧ l < c) : OpR P w0 nt L env (.slice t x (some y) (some z) none) ty (.slice (some ⟨b, off + l.toNat * sz, none⟩) (h.toNat - l.toNat) (c - l.toNat)) := .mk fun o ho _ a hr w _ => by
  have he : P.underlying t = some (.slice (P.elem t)) := by rw [elem_of hu.h]; exact hu.h
  have hz' : ∀ w, (sizeOf (P.elem t)).run P w = .ok sz w := by rw [elem_of hu.h]; exact hz.h
  simp only [execOp, ho, Option.map_some, Option.map_none, hr.eval hx, hr.eval hy, hr.eval hy', Sem.run_bind, run_sliceAt_slice w t _ _ _ _ he, run_slice_lh w t _ n c he k k' l h hh.1 hh.2.1 hh.2.2.1, hz', Result.andThen_ok, sliced]
  have : ¬ c = l.toNat := by omega
  simp [this, addr_add]

/-! ### new blocks -/
theorem W_alloc {t : TypeId} {v : Value} {cs : Array Value} [hz : ZeroC P t v] (hc : v.cells = cs) : OpW P w0 nt L env (.alloc t) ty (fun u L' => ∃ b, u = .pointer (some ⟨b, 0, none⟩) ∧ L' = pt b (.cells cs t) :: L) := .mk fun o ho _ a hr w hs => by
  refine ⟨_, _, _, .inl ?_, hs.alloc (.cells cs t), w.heap.size, rfl, rfl⟩
  simp [execOp, ho, Instr.alloc, hz.h, newVar, newRow, hc]
theorem W_box {t : TypeId} {x : Operand} {v : Value} {cs : Array Value} (hx : evO env x = some v) (hc : v.cells = cs) : OpW P w0 nt L env (.box t x) ty (fun u L' => ∃ b, u = .pointer (some ⟨b, 0, none⟩) ∧ L' = pt b (.cells cs t) :: L) := .mk fun o ho _ a hr w hs => by
  refine ⟨_, _, _, .inl ?_, hs.alloc (.cells cs t), w.heap.size, rfl, rfl⟩
  simp [execOp, ho, Instr.box, newVar, newRow, hc, hr.eval hx]
theorem oneCell_cells {v : Value} (h1 : v.oneCell' = true) : v.cells = #[v] := by cases v <;> first | rfl | (simp [Value.oneCell'] at h1)
theorem W_alloc1 {t : TypeId} {v : Value} [hz : ZeroC P t v] (h1 : v.oneCell' = true) : OpW P w0 nt L env (.alloc t) ty (fun u L' => ∃ b, u = .pointer (some ⟨b, 0, none⟩) ∧ L' = pt b (.cells #[v] t) :: L) := W_alloc (oneCell_cells h1)
theorem W_allocA {t : TypeId} {cs : Array Value} [hz : ZeroC P t (.agg cs)] : OpW P w0 nt L env (.alloc t) ty (fun u L' => ∃ b, u = .pointer (some ⟨b, 0, none⟩) ∧ L' = pt b (.cells cs t) :: L) := W_alloc rfl
theorem W_box1 {t : TypeId} {x : Operand} {v : Value} (hx : evO env x = some v) (h1 : v.oneCell' = true) : OpW P w0 nt L env (.box t x) ty (fun u L' => ∃ b, u = .pointer (some ⟨b, 0, none⟩) ∧ L' = pt b (.cells #[v] t) :: L) := W_box hx (oneCell_cells h1)
theorem W_boxA {t : TypeId} {x : Operand} {cs : Array Value} (hx : evO env x = some (.agg cs)) : OpW P w0 nt L env (.box t x) ty (fun u L' => ∃ b, u = .pointer (some ⟨b, 0, none⟩) ∧ L' = pt b (.cells cs t) :: L) := W_box hx rfl
theorem W_makeMap {t : TypeId} : OpW P w0 nt L env (.makeMap t none) ty (fun u L' => ∃ b, u = .map (some b) ∧ L' = pt b (.map #[] 0) :: L) := .mk fun o ho _ a _ w hs => by
  refine ⟨_, _, _, .inl ?_, hs.alloc (.map #[] 0), w.heap.size, rfl, rfl⟩
  simp [execOp, ho, Instr.makeMap]

def evP (env : Env) : List (Nat × Operand) → Option (List (Nat × Value))
  | [] => some []
  | (i, x) :: r => match evO env x, evP env r with
    | some v, some vs => some ((i, v) :: vs)
    | _, _ => none
theorem evP_map {a : Act} (hr : Rel nt env a) : ∀ {l : List (Nat × Operand)} {vs : List (Nat × Value)}, evP env l = some vs → l.map (fun x => (x.1, a.eval x.2)) = vs
  | [], vs, h => by simp [evP] at h; simp [h]
  | (i, x) :: r, vs, h => by
    simp only [evP] at h
    split at h
    · rename_i v us h1 h2
      obtain rfl := Option.some.inj h
      simp [hr.eval h1, evP_map hr h2]
    · cases h

theorem W_buildSlice {t e : TypeId} {len n : Nat} {ps : List (Nat × Operand)} {vs : List (Nat × Value)} {z : Value} {cs : Array Value} [hu : Und P t (.slice e)] [hz : SizeC P e n] [hzz : ZeroC P e z] (hv : evP env ps = some vs)
    (hlt : Nat.ble (len * n) 16777216 = true) (hn : Nat.beq (len * n) 0 = false)
    (hc : Instr.fill (fun i => some (i * n, n)) ((Array.range (len * n)).map (z.cells[· % z.cells.size]!)) vs = some cs) :
    OpW P w0 nt L env (.buildSlice t len ps.toArray) ty (fun u L' => ∃ b, u = .slice (some ⟨b, 0, none⟩) len len ∧ L' = pt b (.cells cs e) :: L) := .mk fun o ho _ a hr w hs => by
  refine ⟨_, _, _, .inl ?_, hs.alloc (.cells cs e), w.heap.size, rfl, rfl⟩
  have h0 : len * n ≤ 16777216 := by simpa using hlt
  have h1 : ¬ (16777216 < len * n) := by omega
  have h2 : len * n ≠ 0 := ne_of_nbeq hn
  have h3 : (List.map (fun x => (x.1, a.eval x.2)) ps) = vs := evP_map hr hv
  have h4 : (Array.map (fun (x : Nat × Operand) => match x with | (i, x) => (i, a.eval x)) ps.toArray) = vs.toArray := by rw [← h3]; simp
  simp only [execOp, ho, h4, Instr.buildSlice, Sem.run_bind, run_underlying hu.h, Result.andThen_ok, hz.h, Nat.reducePow, gt_iff_lt, h1, if_false, h2, hzz.h, Sem.run_pure, hc, newRow, run_newObj]
  rfl

theorem R_build {t : TypeId} {ps : List (Nat × Operand)} {vs : List (Nat × Value)} {z : Value} {cs : Array Value} {pl : Array (Nat × Nat)} [hu : BuildC P t pl] [hzz : ZeroC P t z] (hv : evP env ps = some vs)
    (hc : Instr.fill (pl[·]?) z.cells vs = some cs) : OpR P w0 nt L env (.build t ps.toArray) ty (.agg cs) := .mk fun o ho _ a hr w _ => by
  obtain ⟨fs, hU, hp⟩ := hu.h
  have h3 : (List.map (fun x => (x.1, a.eval x.2)) ps) = vs := evP_map hr hv
  have h4 : (Array.map (fun (x : Nat × Operand) => match x with | (i, x) => (i, a.eval x)) ps.toArray) = vs.toArray := by rw [← h3]; simp
  have h5 := hp w
  simp only [execOp, ho, h4, Instr.build, Sem.run_bind, run_underlying hU, Result.andThen_ok, hzz.h, h5]
  simp [hc]

/-! ### calls -/
theorem C_call {f : FuncId} {fo : Operand} {fi ca : Array Value} {xs : List Operand} {vs : List Value} {ts : Array TypeId} {args : List Value} {R : Value → List HP → Prop} (hf : evO env fo = some (.func (.func f) fi ca)) (hc : CallC P f)
    (hx : evL env xs = some vs) (ha : fi.toList ++ vs ++ ca.toList = args) (ht : Tr P f args.toArray L R) : OpC P w0 nt L env (.call ⟨.value fo, xs.toArray, ts⟩) ty R := .mk fun o ho _ a hr w hs => by
  refine ⟨f, args.toArray, ?_, ht.h w0 w hs⟩
  have h1 : (xs.toArray.map a.eval) = vs.toArray := by simp [evL_map hr hx]
  have h2 : fi ++ vs.toArray ++ ca = args.toArray := by rw [← ha]; simp
  simp only [execOp, ho, resolve, h1, hr.eval hf, Deferred.ofValue, Sem.run_pure, Sem.run_bind, Result.andThen_ok, invoke, h2, hc.h]

/-! ### storing -/
theorem run_store_of {b off : Nat} {c : Array Value} {T : TypeId} {fr : Nat × Nat} {v : Value} {w : World} (hs : Sat w0 w L) (hu : Upd L b (.cells c T fr) (.cells (c.setIfInBounds off v) T fr) L') (hlt : off < c.size)
    (hfr : (fr.1 ≤ off && off < fr.2) = false) (h1 : v.oneCell' = true) : (store ⟨b, off, none⟩ v).run P w = .ok () (w.setCell ⟨b, off, none⟩ v) := by
  have hb := hs.read hu.reads
  rw [run_store P w _ v _ h1, cell?_of hb, frozen?_of hb, hfr]
  simp [hlt]

theorem W_store {t : TypeId} {x y : Operand} {b off : Nat} {c : Array Value} {T : TypeId} {fr : Nat × Nat} {v : Value} [hz : SizeC P t 1] (hx : evO env x = some (.pointer (some ⟨b, off, none⟩))) (hy : evO env y = some v)
    (h1 : v.oneCell' = true) (hu : Upd L b (.cells c T fr) (.cells (c.setIfInBounds off v) T fr) L') (hlt : off < c.size) (hfr : (fr.1 ≤ off && off < fr.2) = false) :
    OpW P w0 nt L env (.store t x y) ty (fun u L2 => u = undef ∧ L2 = L') := .mk fun o ho _ a hr w hs => by
  refine ⟨_, _, _, .inr ⟨rfl, ?_⟩, hs.setCell hu, rfl, rfl⟩
  have hcs : v.cells = #[v] := by cases v <;> first | rfl | (simp [Value.oneCell'] at h1)
  have hst := run_store_of (P := P) hs hu hlt hfr h1
  simp only [execOp, ho, Instr.storeAt, Instr.sureAddr, hr.eval hx, hr.eval hy, storeVar, hcs, Sem.run_bind, Sem.run_pure, Result.andThen_ok, hz.h, List.size_toArray, List.length_cons, List.length_nil, ne_eq, not_true_eq_false, if_false, storeCells, addr_add, Nat.add_zero, hst]

/-- cells written one behind the other -/
def wrs (c : Array Value) (off : Nat) : List Value → Array Value
  | [] => c
  | v :: r => wrs (c.setIfInBounds off v) (off + 1) r
theorem size_wrs : ∀ (l : List Value) (c : Array Value) (off : Nat), (wrs c off l).size = c.size
  | [], _, _ => rfl
  | v :: r, c, off => by simp [wrs, size_wrs r]

theorem run_storeCells_of {b : Nat} {T : TypeId} {fr : Nat × Nat} {C : Array Value → List HP} (hU : ∀ c c' : Array Value, Upd (C c) b (.cells c T fr) (.cells c' T fr) (C c')) :
    ∀ (l : List Value) (off i : Nat) (c : Array Value) (w : World), Sat w0 w (C c) → off + i + l.length ≤ c.size → (∀ v ∈ l, v.oneCell' = true) → (fr.2 ≤ off + i ∨ off + i + l.length ≤ fr.1) →
      ∃ w', (storeCells ⟨b, off, none⟩ l i).run P w = .ok () w' ∧ Sat w0 w' (C (wrs c (off + i) l))
  | [], off, i, c, w, hs, _, _, _ => ⟨w, by simp [storeCells], by simpa [wrs] using hs⟩
  | v :: l, off, i, c, w, hs, hle, h1, hfr => by
    simp only [List.length_cons] at hle hfr
    have hst := run_store_of (P := P) (off := off + i) (v := v) hs (hU c (c.setIfInBounds (off + i) v)) (by omega) (by simp; omega) (h1 v (by simp))
    have hs' : Sat w0 (w.setCell ⟨b, off + i, none⟩ v) (C (c.setIfInBounds (off + i) v)) := hs.setCell (hU c _)
    obtain ⟨w', h2, h3⟩ := run_storeCells_of hU l off (i + 1) _ _ hs' (by simp; omega) (fun u hu => h1 u (by simp [hu])) (by omega)
    refine ⟨w', ?_, h3⟩
    simp only [storeCells, Sem.run_bind, addr_add, hst, Result.andThen_ok, h2]

/-- In L block b is cells, and may be turned. -/
class Cell (L : List HP) (b : Nat) (T : outParam TypeId) (fr : outParam (Nat × Nat)) (c : outParam (Array Value)) (C : outParam (Array Value → List HP)) : Prop where
  here : L = C c
  upd : ∀ c c' : Array Value, Upd (C c) b (.cells c T fr) (.cells c' T fr) (C c')
instance Cell.head {b : Nat} {T : TypeId} {fr : Nat × Nat} {c : Array Value} {L : List HP} : Cell (pt b (.cells c T fr) :: L) b T fr c (fun c => pt b (.cells c T fr) :: L) := ⟨rfl, fun _ _ => Upd.here⟩
instance (priority := low) Cell.tail {b : Nat} {T : TypeId} {fr : Nat × Nat} {c : Array Value} {p : HP} {L : List HP} {C : Array Value → List HP} [h : Cell L b T fr c C] : Cell (p :: L) b T fr c (fun c => p :: C c) :=
  ⟨congrArg (p :: ·) h.here, fun c c' => Upd.there (h.upd c c')⟩

theorem Cell.reads {b : Nat} {T : TypeId} {fr : Nat × Nat} {c : Array Value} {L : List HP} {C : Array Value → List HP} (h : Cell L b T fr c C) : Reads L b (.cells c T fr) := by
  have := (h.upd c c).reads
  rwa [← h.here] at this

theorem W_store1 {t : TypeId} {x y : Operand} {b off : Nat} {c : Array Value} {T : TypeId} {fr : Nat × Nat} {v : Value} {C : Array Value → List HP} [hz : SizeC P t 1] (hx : evO env x = some (.pointer (some ⟨b, off, none⟩)))
    (hy : evO env y = some v) (hc : Cell L b T fr c C) (h1 : v.oneCell' = true) (hlt : off < c.size) (hfr : (fr.1 ≤ off && off < fr.2) = false) :
    OpW P w0 nt L env (.store t x y) ty (fun u L2 => u = undef ∧ L2 = C (c.setIfInBounds off v)) := by
  obtain rfl := hc.here
  exact W_store hx hy h1 (hc.upd _ _) hlt hfr

theorem W_storeA {t : TypeId} {x y : Operand} {b off n : Nat} {c vs : Array Value} {T : TypeId} {fr : Nat × Nat} {C : Array Value → List HP} [hz : SizeC P t n] (hx : evO env x = some (.pointer (some ⟨b, off, none⟩)))
    (hy : evO env y = some (.agg vs)) (hc : Cell L b T fr c C) (hn : vs.size = n) (h1 : ∀ v ∈ vs.toList, v.oneCell' = true) (hlt : off + n ≤ c.size) (hfr : fr.2 ≤ off ∨ off + n ≤ fr.1) :
    OpW P w0 nt L env (.store t x y) ty (fun u L2 => u = undef ∧ L2 = C (wrs c off vs.toList)) := .mk fun o ho _ a hr w hs => by
  rw [hc.here] at hs
  obtain ⟨w', h2, h3⟩ := run_storeCells_of (P := P) hc.upd vs.toList off 0 c w hs (by simpa [hn] using hlt) h1 (by simpa [hn] using hfr)
  refine ⟨_, w', _, .inr ⟨rfl, ?_⟩, h3, rfl, rfl⟩
  simp only [execOp, ho, Instr.storeAt, Instr.sureAddr, hr.eval hx, hr.eval hy, storeVar, Value.cells, Sem.run_bind, Sem.run_pure, Result.andThen_ok, hz.h, hn, ne_eq, not_true_eq_false, if_false, h2]

end
end Go.SL

/-
  OWN BASE, PART 4: reading by instances; the walk's own forms of the laws.
-/
namespace Go.SL
open Go

/-- In L block b is o (found by instance). -/
class ReadC (L : List HP) (b : Nat) (o : outParam Obj) : Prop where
  h : Reads L b o
/-- The world W held o in block b. -/
class InW (W : World) (b : Nat) (o : outParam Obj) : Prop where
  h : W.heap[b]? = some o
instance ReadC.head {b : Nat} {o : Obj} {L : List HP} : ReadC (pt b o :: L) b o := ⟨Reads.here⟩
instance (priority := low) ReadC.tail {b : Nat} {o : Obj} {p : HP} {L : List HP} [h : ReadC L b o] : ReadC (p :: L) b o := ⟨Reads.there h.h⟩
instance ReadC.whole {b : Nat} {o : Obj} {W : World} {L : List HP} [h : InW W b o] : ReadC (whole W :: L) b o := ⟨Reads.whole h.h⟩

def lget : List Value → Nat → Option Value
  | [], _ => none
  | v :: _, 0 => some v
  | _ :: r, n + 1 => lget r n
theorem lget_eq : ∀ (l : List Value) (n : Nat), lget l n = l[n]?
  | [], _ => by simp [lget]
  | v :: _, 0 => by simp [lget]
  | _ :: r, n + 1 => by simp [lget, lget_eq r n]

section
variable {P : Program} {w0 : World} {nt : Cx} {L : List HP} {env : Env} {ty : TypeId} {Q : Exit → Act → World → Prop}

theorem L_load {t : TypeId} {x : Operand} {b off : Nat} {c : Array Value} {T : TypeId} {fr : Nat × Nat} {v : Value} [AggC P t false] (hx : evO env x = some (.pointer (some ⟨b, off, none⟩)))
    (hr : ReadC L b (.cells c T fr)) (hv : c[off]? = some v) : OpR P w0 nt L env (.load t x) ty v := R_load hx hr.h hv
/-- of a block that is written out -/
theorem L_load' {t : TypeId} {x : Operand} {b off : Nat} {c : Array Value} {T : TypeId} {fr : Nat × Nat} {v : Value} [AggC P t false] (hx : evO env x = some (.pointer (some ⟨b, off, none⟩)))
    (hr : ReadC L b (.cells c T fr)) (hv : lget c.toList off = some v) : OpR P w0 nt L env (.load t x) ty v := R_load hx hr.h (by rw [lget_eq] at hv; simpa using hv)
theorem L_load_all {t : TypeId} {x : Operand} {b n : Nat} {c : Array Value} {T : TypeId} {fr : Nat × Nat} [AggC P t true] [SizeC P t n] (hx : evO env x = some (.pointer (some ⟨b, 0, none⟩)))
    (hr : ReadC L b (.cells c T fr)) (hn : Nat.beq c.toList.length n = true) : OpR P w0 nt L env (.load t x) ty (.agg c) := by
  have h : c.size = n := by simpa using hn
  exact R_load_agg hx hr.h (by omega) (by simp [← h])
theorem L_load_agg {t : TypeId} {x : Operand} {b off n : Nat} {c cs : Array Value} {T : TypeId} {fr : Nat × Nat} [AggC P t true] [SizeC P t n] (hx : evO env x = some (.pointer (some ⟨b, off, none⟩)))
    (hr : ReadC L b (.cells c T fr)) (hle : off + n ≤ c.size) (hv : c.extract off (off + n) = cs) : OpR P w0 nt L env (.load t x) ty (.agg cs) := R_load_agg hx hr.h hle hv

/-- a store into a block that is written out -/
def lset : List Value → Nat → Value → List Value
  | [], _, _ => []
  | _ :: r, 0, u => u :: r
  | v :: r, n + 1, u => v :: lset r n u
theorem lset_eq : ∀ (l : List Value) (n : Nat) (u : Value), lset l n u = l.set n u
  | [], _, _ => by simp [lset]
  | _ :: _, 0, _ => by simp [lset]
  | _ :: r, n + 1, u => by simp [lset, lset_eq r n u]

theorem W_storeL {t : TypeId} {x y : Operand} {b off : Nat} {c : Array Value} {T : TypeId} {v : Value} {C : Array Value → List HP} [SizeC P t 1] (hx : evO env x = some (.pointer (some ⟨b, off, none⟩)))
    (hy : evO env y = some v) (hc : Cell L b T (0, 0) c C) (h1 : v.oneCell' = true) (hlt : Nat.blt off c.toList.length = true) {l' : List Value} (hl : lset c.toList off v = l') :
    OpW P w0 nt L env (.store t x y) ty (fun u L2 => u = undef ∧ L2 = C l'.toArray) := by
  have h2 : off < c.size := by simpa using hlt
  have h3 : c.setIfInBounds off v = l'.toArray := by rw [← hl, lset_eq]; apply Array.ext'; simp
  rw [← h3]
  exact W_store1 hx hy hc h1 h2 (by simp)
/-- a store of a whole block -/
theorem wrs_all {l : List Value} : ∀ (a d : List Value), a.length = l.length → wrs (d ++ a).toArray d.length l = (d ++ l).toArray := by
  induction l with
  | nil => intro a d h; obtain rfl := List.eq_nil_of_length_eq_zero h; simp [wrs]
  | cons v r ih =>
    intro a d h
    match a, h with
    | u :: a', h =>
      simp only [wrs]
      have h1 : (d ++ u :: a').toArray.setIfInBounds d.length v = ((d ++ [v]) ++ a').toArray := by apply Array.ext'; simp
      rw [h1, show d.length + 1 = (d ++ [v]).length by simp, ih a' (d ++ [v]) (by simpa using h)]
      simp
theorem W_storeAll {t : TypeId} {x y : Operand} {b n : Nat} {c vs : Array Value} {T : TypeId} {C : Array Value → List HP} [SizeC P t n] (hx : evO env x = some (.pointer (some ⟨b, 0, none⟩)))
    (hy : evO env y = some (.agg vs)) (hc : Cell L b T (0, 0) c C) (hn : Nat.beq vs.toList.length n = true) (hm : Nat.beq c.toList.length n = true) (h1 : vs.toList.all Value.oneCell' = true) :
    OpW P w0 nt L env (.store t x y) ty (fun u L2 => u = undef ∧ L2 = C vs) := by
  have hn' : vs.size = n := by simpa using hn
  have hm' : c.size = n := by simpa using hm
  have h2 : wrs c 0 vs.toList = vs := by have := wrs_all (l := vs.toList) c.toList [] (by simp [hn', hm']); simpa using this
  have := W_storeA (P := P) (w0 := w0) (nt := nt) (env := env) (ty := ty) (t := t) hx hy hc hn' (fun v hv => List.all_eq_true.1 h1 v hv) (by omega) (.inl (Nat.zero_le _))
  rwa [h2] at this

theorem fold_set {n : Nat} (cs : Array Value) (hc : cs.size = n) : ∀ (l : List Value) (d : Nat) (a : Array Value), a.size = n → l = cs.toList.drop d → (∀ i, i < d → a[i]? = cs[i]?) → d ≤ n →
    (l.zipIdx d).foldl (fun cs (x : Value × Nat) => cs.setIfInBounds (0 + x.2) x.1) a = cs
  | [], d, a, ha, hl, hp, hd => by
    have hd' : n ≤ d := by
      have := congrArg List.length hl
      simp at this; omega
    apply Array.ext_getElem?
    intro i
    by_cases hi : i < d
    · exact hp i hi
    · simp only [List.zipIdx_nil, List.foldl_nil]; rw [Array.getElem?_eq_none (by omega), Array.getElem?_eq_none (by omega)]
  | v :: r, d, a, ha, hl, hp, hd => by
    have hlt : d < n := by
      have := congrArg List.length hl
      simp at this; omega
    have hv : cs[d]? = some v := by
      have := congrArg (·[0]?) hl
      simp at this
      exact this.symm
    have hr : r = cs.toList.drop (d + 1) := by
      have := congrArg List.tail hl
      simpa using this
    simp only [List.zipIdx_cons, List.foldl_cons]
    exact fold_set cs hc r (d + 1) _ (by simpa using ha) hr (fun i hi => by
      rw [Nat.zero_add, Array.getElem?_setIfInBounds]
      by_cases h : d = i
      · subst h; simp [ha, hlt, hv]
      · simp [h]; exact hp i (by omega)) (by omega)

theorem fill_one {n : Nat} {z cs : Array Value} (hz : z.size = n) (hc : cs.size = n) : Instr.fill (fun i => some (i * n, n)) z [(0, .agg cs)] = some cs := by
  simp only [Instr.fill, Value.cells, Nat.zero_mul, hc, hz, Nat.zero_add, ne_eq, not_true_eq_false, gt_iff_lt, Nat.lt_irrefl, decide_false, Bool.or_self, Bool.false_eq_true, if_false]
  rw [← Array.foldl_toList, Array.toList_zipIdx]
  have := fold_set cs hc cs.toList 0 z hz rfl (fun i hi => by omega) (by omega)
  simpa using this

theorem W_buildSlice1 {t e : TypeId} {n : Nat} {x : Operand} {cs : Array Value} {z : Value} [hu : Und P t (.slice e)] [hz : SizeC P e n] [hzz : ZeroC P e z] (hx : evO env x = some (.agg cs)) (hn : Nat.beq cs.toList.length n = true)
    (hzn : Nat.beq z.cells.toList.length n = true) (h0 : Nat.beq n 0 = false) (hlt : Nat.ble n 16777216 = true) :
    OpW P w0 nt L env (.buildSlice t 1 #[(0, x)]) ty (fun u L' => ∃ b, u = .slice (some ⟨b, 0, none⟩) 1 1 ∧ L' = pt b (.cells cs e) :: L) := by
  have h1 : cs.size = n := by simpa using hn
  have h2 : z.cells.size = n := by simpa using hzn
  have h3 : n ≠ 0 := ne_of_nbeq h0
  refine W_buildSlice (ps := [(0, x)]) (vs := [(0, .agg cs)]) (by simp [evP, hx]) (by simpa using hlt) (by rw [Nat.one_mul]; exact h0) ?_
  rw [Nat.one_mul]
  exact fill_one (by simp) h1
theorem W_buildSlice1s {t e : TypeId} {x : Operand} {v : Value} {z : Value} [hu : Und P t (.slice e)] [hz : SizeC P e 1] [hzz : ZeroC P e z] (hx : evO env x = some v) (h1 : v.oneCell' = true) :
    OpW P w0 nt L env (.buildSlice t 1 #[(0, x)]) ty (fun u L' => ∃ b, u = .slice (some ⟨b, 0, none⟩) 1 1 ∧ L' = pt b (.cells #[v] e) :: L) := by
  refine W_buildSlice (ps := [(0, x)]) (vs := [(0, v)]) (by simp [evP, hx]) rfl rfl ?_
  have hc := oneCell_cells h1
  simp [Instr.fill, hc, Array.range_succ, Array.range_zero']

theorem sw_cond_pos {c : Operand} {x y : Code} {p : Prop} [Decidable p] (hc : evO env c = some (.bool (decide p))) (hp : p) (h : SW P w0 nt L env x Q) : SW P w0 nt L env (.cond c x y) Q :=
  sw_cond_dec hc (fun _ => h) (fun hn => absurd hp hn)
theorem sw_cond_neg {c : Operand} {x y : Code} {p : Prop} [Decidable p] (hc : evO env c = some (.bool (decide p))) (hp : ¬ p) (h : SW P w0 nt L env y Q) : SW P w0 nt L env (.cond c x y) Q :=
  sw_cond_dec hc (fun hn => absurd hn hp) (fun _ => h)
theorem sw_cond_npos {c : Operand} {x y : Code} {p : Prop} [Decidable p] (hc : evO env c = some (.bool (!decide p))) (hp : p) (h : SW P w0 nt L env y Q) : SW P w0 nt L env (.cond c x y) Q :=
  sw_cond_not hc (fun hn => absurd hp hn) (fun _ => h)
theorem sw_cond_nneg {c : Operand} {x y : Code} {p : Prop} [Decidable p] (hc : evO env c = some (.bool (!decide p))) (hp : ¬ p) (h : SW P w0 nt L env x Q) : SW P w0 nt L env (.cond c x y) Q :=
  sw_cond_not hc (fun _ => h) (fun hn => absurd hn hp)
variable {ops : Array Oper} {rest : List Oper} {dst : Option Tmp} {op : Op} {pos : String} {after : Array Edge}
theorem swl_g_pos {j d : Nat} {want : Bool} {p : Prop} [Decidable p] (hj : (ops[j]?).bind (·.dst) = some d) (hb : env.get d = some (.bool (decide p))) (hp : p)
    (h : SWL P w0 nt L ((d, .bool true) :: env) ops (⟨dst, op, ty, pos, after, some (j, want)⟩ :: rest) Q) : SWL P w0 nt L env ops (⟨dst, op, ty, pos, after, some (j, want)⟩ :: rest) Q :=
  swl_g_dec hj hb (fun _ => h) (fun hn => absurd hp hn)
theorem swl_g_neg {j d : Nat} {want : Bool} {p : Prop} [Decidable p] (hj : (ops[j]?).bind (·.dst) = some d) (hb : env.get d = some (.bool (decide p))) (hp : ¬ p)
    (h : SWL P w0 nt L ((d, .bool false) :: env) ops (⟨dst, op, ty, pos, after, some (j, want)⟩ :: rest) Q) : SWL P w0 nt L env ops (⟨dst, op, ty, pos, after, some (j, want)⟩ :: rest) Q :=
  swl_g_dec hj hb (fun hn => absurd hn hp) (fun _ => h)
theorem swl_g_npos {j d : Nat} {want : Bool} {p : Prop} [Decidable p] (hj : (ops[j]?).bind (·.dst) = some d) (hb : env.get d = some (.bool (!decide p))) (hp : p)
    (h : SWL P w0 nt L ((d, .bool false) :: env) ops (⟨dst, op, ty, pos, after, some (j, want)⟩ :: rest) Q) : SWL P w0 nt L env ops (⟨dst, op, ty, pos, after, some (j, want)⟩ :: rest) Q :=
  swl_g_ndec hj hb (fun hn => absurd hp hn) (fun _ => h)
theorem swl_g_nneg {j d : Nat} {want : Bool} {p : Prop} [Decidable p] (hj : (ops[j]?).bind (·.dst) = some d) (hb : env.get d = some (.bool (!decide p))) (hp : ¬ p)
    (h : SWL P w0 nt L ((d, .bool true) :: env) ops (⟨dst, op, ty, pos, after, some (j, want)⟩ :: rest) Q) : SWL P w0 nt L env ops (⟨dst, op, ty, pos, after, some (j, want)⟩ :: rest) Q :=
  swl_g_ndec hj hb (fun _ => h) (fun hn => absurd hn hp)

/-! guards in a region that draws -/
variable {Lr : List HP} {listed : Array Bool} {order : List (Nat × Bool)} {i : Nat} {lt : Bool}
theorem swh_g_dec {j d : Nat} {want : Bool} {p : Prop} [Decidable p] (_hi : ops[i]? = some ⟨dst, op, ty, pos, after, some (j, want)⟩) (_hj : (ops[j]?).bind (·.dst) = some d) (hb : env.get d = some (.bool (decide p)))
    (ht : p → SWH P w0 nt Lr L ((d, .bool true) :: env) ops listed ((i, lt) :: order) Q) (hf : ¬ p → SWH P w0 nt Lr L ((d, .bool false) :: env) ops listed ((i, lt) :: order) Q) :
    SWH P w0 nt Lr L env ops listed ((i, lt) :: order) Q := swh_split hb ht hf
theorem swh_g_ndec {j d : Nat} {want : Bool} {p : Prop} [Decidable p] (_hi : ops[i]? = some ⟨dst, op, ty, pos, after, some (j, want)⟩) (_hj : (ops[j]?).bind (·.dst) = some d) (hb : env.get d = some (.bool (!decide p)))
    (ht : ¬ p → SWH P w0 nt Lr L ((d, .bool true) :: env) ops listed ((i, lt) :: order) Q) (hf : p → SWH P w0 nt Lr L ((d, .bool false) :: env) ops listed ((i, lt) :: order) Q) :
    SWH P w0 nt Lr L env ops listed ((i, lt) :: order) Q := swh_splitn hb ht hf
theorem swh_g_bool {j d : Nat} {want t : Bool} (_hi : ops[i]? = some ⟨dst, op, ty, pos, after, some (j, want)⟩) (_hj : (ops[j]?).bind (·.dst) = some d) (hb : env.get d = some (.bool t))
    (ht : t = true → SWH P w0 nt Lr L ((d, .bool true) :: env) ops listed ((i, lt) :: order) Q) (hf : t = false → SWH P w0 nt Lr L ((d, .bool false) :: env) ops listed ((i, lt) :: order) Q) :
    SWH P w0 nt Lr L env ops listed ((i, lt) :: order) Q := swh_splitb hb ht hf
theorem swh_g_pos {j d : Nat} {want : Bool} {p : Prop} [Decidable p] (hi : ops[i]? = some ⟨dst, op, ty, pos, after, some (j, want)⟩) (hj : (ops[j]?).bind (·.dst) = some d) (hb : env.get d = some (.bool (decide p))) (hp : p)
    (h : SWH P w0 nt Lr L ((d, .bool true) :: env) ops listed ((i, lt) :: order) Q) : SWH P w0 nt Lr L env ops listed ((i, lt) :: order) Q := swh_g_dec hi hj hb (fun _ => h) (fun hn => absurd hp hn)
theorem swh_g_neg {j d : Nat} {want : Bool} {p : Prop} [Decidable p] (hi : ops[i]? = some ⟨dst, op, ty, pos, after, some (j, want)⟩) (hj : (ops[j]?).bind (·.dst) = some d) (hb : env.get d = some (.bool (decide p))) (hp : ¬ p)
    (h : SWH P w0 nt Lr L ((d, .bool false) :: env) ops listed ((i, lt) :: order) Q) : SWH P w0 nt Lr L env ops listed ((i, lt) :: order) Q := swh_g_dec hi hj hb (fun hn => absurd hn hp) (fun _ => h)
theorem swh_g_npos {j d : Nat} {want : Bool} {p : Prop} [Decidable p] (hi : ops[i]? = some ⟨dst, op, ty, pos, after, some (j, want)⟩) (hj : (ops[j]?).bind (·.dst) = some d) (hb : env.get d = some (.bool (!decide p))) (hp : p)
    (h : SWH P w0 nt Lr L ((d, .bool false) :: env) ops listed ((i, lt) :: order) Q) : SWH P w0 nt Lr L env ops listed ((i, lt) :: order) Q := swh_g_ndec hi hj hb (fun hn => absurd hp hn) (fun _ => h)
theorem swh_g_nneg {j d : Nat} {want : Bool} {p : Prop} [Decidable p] (hi : ops[i]? = some ⟨dst, op, ty, pos, after, some (j, want)⟩) (hj : (ops[j]?).bind (·.dst) = some d) (hb : env.get d = some (.bool (!decide p))) (hp : ¬ p)
    (h : SWH P w0 nt Lr L ((d, .bool true) :: env) ops listed ((i, lt) :: order) Q) : SWH P w0 nt Lr L env ops listed ((i, lt) :: order) Q := swh_g_ndec hi hj hb (fun _ => h) (fun hn => absurd hn hp)

/-! ### A slice that is read -/
/-- In L the slice at p has these elements, each of k cells. -/
class SlC (L : List HP) (p : Option Addr) (k n cap : outParam Nat) (els : outParam (List (Array Value))) : Prop where
  len : els.length = n
  le : n ≤ cap
  bd : n ≤ 140737488355328
  ptr : 0 < n → ∃ b off, p = some ⟨b, off, none⟩
  at_ : ∀ h, Own L h → ∀ i, i < n → ∃ b off c T fr, p = some ⟨b, off, none⟩ ∧ h b = some (.cells c T fr) ∧ off + i * k + k ≤ c.size ∧ c.extract (off + i * k) (off + i * k + k) = els.getD i #[]

instance (priority := low) SlC.tail {L : List HP} {p : Option Addr} {k n cap : Nat} {els : List (Array Value)} {q : HP} [h : SlC L p k n cap els] : SlC (q :: L) p k n cap els :=
  ⟨h.len, h.le, h.bd, h.ptr, fun g hg i hi => by
    obtain ⟨a, r, hs, _, hL⟩ := own_cons.1 hg
    obtain ⟨b, off, c, T, fr, h1, h2, h3⟩ := h.at_ r hL i hi
    refine ⟨b, off, c, T, fr, h1, ?_, h3⟩
    have := hs b
    simp_all⟩

theorem SlC.take {L : List HP} {p : Option Addr} {k n cap : Nat} {els : List (Array Value)} (h : SlC L p k n cap els) (m : Nat) (hm : m ≤ n) : SlC L p k m cap (els.take m) := by
  have h1 := h.len; have h2 := h.le; have h3 := h.bd
  refine ⟨by simp; omega, by omega, by omega, fun h0 => h.ptr (by omega), fun g hg i hi => ?_⟩
  obtain ⟨b, off, c, T, fr, e1, e2, e3, e4⟩ := h.at_ g hg i (by omega)
  refine ⟨b, off, c, T, fr, e1, e2, e3, ?_⟩
  rw [e4]; simp [List.getD_eq_getElem?_getD, hi]

theorem SlC.ent {L L' : List HP} {p : Option Addr} {k n cap : Nat} {els : List (Array Value)} (h : SlC L' p k n cap els) (e : Ent L L') : SlC L p k n cap els :=
  ⟨h.len, h.le, h.bd, h.ptr, fun g hg => h.at_ g (e.own hg)⟩

theorem L_load_el {t : TypeId} {x : Operand} {b off i k n cap : Nat} {els : List (Array Value)} {cs : Array Value} [hg : AggC P t true] (hx : evO env x = some (.pointer (some ⟨b, off + i * k, none⟩)))
    (hs : SlC L (some ⟨b, off, none⟩) k n cap els) (hz : SizeC P t k) (hi : i < n) (hv : els.getD i #[] = cs) : OpR P w0 nt L env (.load t x) ty (.agg cs) := .mk fun o ho _ a ha w hw => by
  obtain ⟨b', off', c, T, fr, e1, e2, e3, e4⟩ := hs.at_ _ hw.own i hi
  simp only [Option.some.injEq, Addr.mk.injEq, and_true] at e1
  obtain ⟨rfl, rfl⟩ := e1
  rw [hv] at e4
  simp [execOp, ho, ha.eval hx, Instr.loadAt, Instr.sureAddr, loadVar, hg.h, hz.h, run_loadCells_of e2 e3, e4]

theorem L_load_el1 {t : TypeId} {x : Operand} {b off i n cap : Nat} {els : List (Array Value)} {v : Value} [hg : AggC P t false] (hx : evO env x = some (.pointer (some ⟨b, off + i * 1, none⟩)))
    (hs : SlC L (some ⟨b, off, none⟩) 1 n cap els) (hi : i < n) (hv : els.getD i #[] = #[v]) : OpR P w0 nt L env (.load t x) ty v := .mk fun o ho _ a ha w hw => by
  obtain ⟨b', off', c, T, fr, e1, e2, e3, e4⟩ := hs.at_ _ hw.own i hi
  simp only [Option.some.injEq, Addr.mk.injEq, and_true] at e1
  obtain ⟨rfl, rfl⟩ := e1
  rw [hv] at e4
  have e5 : c[off + i * 1]? = some v := by
    have := congrArg (·[0]?) e4
    rw [Array.getElem?_extract] at this
    split at this
    · simpa using this
    · simp at this
  simp only [execOp, ho, ha.eval hx, Instr.loadAt, Instr.sureAddr, loadVar, Sem.run_bind, Sem.run_pure, hg.h, Result.andThen_ok, Bool.false_eq_true, if_false, run_load, cell?_of e2, e5]

/-- one field of an element -/
theorem L_load_elf {t : TypeId} {x : Operand} {b off i f k n cap : Nat} {els : List (Array Value)} {cs : Array Value} {v : Value} [hg : AggC P t false] (hx : evO env x = some (.pointer (some ⟨b, off + i * k + f, none⟩)))
    (hs : SlC L (some ⟨b, off, none⟩) k n cap els) (hi : i < n) (hv : els.getD i #[] = cs) (hf : lget cs.toList f = some v) (hk : Nat.blt f k = true) : OpR P w0 nt L env (.load t x) ty v := .mk fun o ho _ a ha w hw => by
  obtain ⟨b', off', c, T, fr, e1, e2, e3, e4⟩ := hs.at_ _ hw.own i hi
  simp only [Option.some.injEq, Addr.mk.injEq, and_true] at e1
  obtain ⟨rfl, rfl⟩ := e1
  rw [hv] at e4
  have hk' : f < k := by simpa using hk
  have e5 : c[off + i * k + f]? = some v := by
    rw [lget_eq] at hf
    have hf' : cs[f]? = some v := by simpa using hf
    rw [← e4, Array.getElem?_extract] at hf'
    split at hf'
    · exact hf'
    · cases hf'
  simp only [execOp, ho, ha.eval hx, Instr.loadAt, Instr.sureAddr, loadVar, Sem.run_bind, Sem.run_pure, hg.h, Result.andThen_ok, Bool.false_eq_true, if_false, run_load, cell?_of e2, e5]
end
end Go.SL

/-
  OWN BASE, PART 5: slices of the call's own, which are appended to.
-/
namespace Go.SL
open Go

/-- What is known of an element's type. -/
class ElemC (P : Program) (e : TypeId) (size : outParam Nat) (bytes : outParam Nat) : Prop where
  h : ∃ i z, P.info? e = some i ∧ i.size = size ∧ i.bytes = bytes ∧ i.zero = some z ∧ z.cells.size = size ∧ 0 < size

theorem info_of {P : Program} {t : TypeId} {i : TypeInfo} (h : ∀ w, (typeInfo t).run P w = .ok i w) : P.info? t = some i := by
  have h := h default
  unfold typeInfo at h
  cases hi : P.info? t with
  | none => simp [hi] at h
  | some j => simp [hi] at h; rw [h]

/-- a fact found by instance -/
class Fact' (p : Prop) : Prop where
  h : p

/-- what is known of a slice's own numbers -/
class SlOK (p : Option Addr) (n cap : Nat) : Prop where
  le : n ≤ cap
  bd : n ≤ 140737488355328
  ptr : 0 < n → ∃ b off, p = some ⟨b, off, none⟩
instance lenOK_map {α : Type} {f : α → Array Value} {l : List α} : Fact' ((l.map f).length = l.length) := ⟨List.length_map ..⟩
instance lenOK_self {els : List (Array Value)} : Fact' (els.length = els.length) := ⟨rfl⟩

/-- the cells of elements -/
def flat (els : List (Array Value)) : List Value := els.flatMap Array.toList
theorem flat_append (a b : List (Array Value)) : flat (a ++ b) = flat a ++ flat b := by simp [flat]
theorem flat_length {k : Nat} : ∀ {els : List (Array Value)}, (∀ e ∈ els, e.size = k) → (flat els).length = els.length * k
  | [], _ => by simp [flat]
  | e :: r, h => by
    have h1 := h e (by simp)
    have h2 := flat_length (els := r) (fun x hx => h x (by simp [hx]))
    simp only [flat, List.flatMap_cons, List.length_append, List.length_cons] at h2 ⊢
    rw [h2, Array.length_toList, h1, Nat.add_mul]; omega
theorem flat_el {k : Nat} : ∀ {els : List (Array Value)}, (∀ e ∈ els, e.size = k) → ∀ i, i < els.length → ((flat els).drop (i * k)).take k = (els.getD i #[]).toList
  | [], _, _, h => by simp at h
  | e :: r, h, 0, _ => by
    have h1 := h e (by simp)
    simp [flat, ← h1]
  | e :: r, h, i + 1, hi => by
    have h1 := h e (by simp)
    have h2 := flat_el (els := r) (fun x hx => h x (by simp [hx])) i (by simpa using hi)
    have h3 : (flat (e :: r)).drop ((i + 1) * k) = (flat r).drop (i * k) := by
      simp only [flat, List.flatMap_cons]
      rw [show (i + 1) * k = e.toList.length + i * k by rw [Array.length_toList, h1, Nat.add_mul]; omega, ← List.drop_drop, List.drop_left]
    rw [h3, h2]; simp

/-- The slice v, of elements of type e (k cells each), in a row of its own. -/
def vec (e k : Nat) (els : List (Array Value)) (v : Value) : HP := fun h => (∀ x ∈ els, x.size = k) ∧ els.length ≤ 140737488355328 ∧
  ((v = .slice none 0 0 ∧ els = []) ∨ ∃ g cap cur, v = .slice (some ⟨g, 0, none⟩) els.length cap ∧ h g = some (.cells cur e (0, 0)) ∧ els.length ≤ cap ∧ cap ≤ maxLen ∧ cur.size = cap * k ∧ cur.toList.take (els.length * k) = flat els)

theorem vec_open {e k : Nat} {els : List (Array Value)} {v : Value} {F : List HP} {h : Hp} (H : Own (vec e k els v :: F) h) : (∀ x ∈ els, x.size = k) ∧ els.length ≤ 140737488355328 ∧
    ((v = .slice none 0 0 ∧ els = []) ∨ ∃ g cap cur, v = .slice (some ⟨g, 0, none⟩) els.length cap ∧ els.length ≤ cap ∧ cap ≤ maxLen ∧ cur.size = cap * k ∧ cur.toList.take (els.length * k) = flat els ∧ Own (pt g (.cells cur e) :: F) h) := by
  obtain ⟨p, q, hs, ⟨hl, hb, hp⟩, hF⟩ := own_cons.1 H
  refine ⟨hl, hb, ?_⟩
  rcases hp with ⟨rfl, rfl⟩ | ⟨g, cap, cur, rfl, hg, h1, h2, h3, h4⟩
  · exact .inl ⟨rfl, rfl⟩
  · exact .inr ⟨g, cap, cur, rfl, h1, h2, h3, h4, own_cons.2 ⟨p, q, hs, pt_iff.2 hg, hF⟩⟩
theorem Ent.vec_nil {e k : Nat} {F : List HP} : Ent F (vec e k [] (.slice none 0 0) :: F) := Ent.mk fun h H =>
  own_cons.2 ⟨fun _ => none, h, fun _ => .inr ⟨rfl, rfl⟩, ⟨by simp, by simp, .inl ⟨rfl, rfl⟩⟩, H⟩
theorem Ent.vec_close {e k n g cap : Nat} {cur : Array Value} {els : List (Array Value)} {F : List HP} (hk : ∀ x ∈ els, x.size = k) (hb : els.length ≤ 140737488355328) (hn : els.length = n) (h1 : n ≤ cap) (h2 : cap ≤ maxLen) (h3 : cur.size = cap * k) (h4 : cur.toList.take (n * k) = flat els) :
    Ent (pt g (.cells cur e) :: F) (vec e k els (.slice (some ⟨g, 0, none⟩) n cap) :: F) := Ent.mk fun _ H => by
  subst hn
  obtain ⟨p, q, hs, hp, hF⟩ := own_cons.1 H
  exact own_cons.2 ⟨p, q, hs, ⟨hk, hb, .inr ⟨g, cap, cur, rfl, pt_iff.1 hp, h1, h2, h3, h4⟩⟩, hF⟩
/-- Of what make the value is. -/
theorem vec_shape {e k : Nat} {els : List (Array Value)} {v : Value} {F : List HP} {h : Hp} (H : Own (vec e k els v :: F) h) : ∃ p cap, v = .slice p els.length cap := by
  obtain ⟨_, _, hp⟩ := vec_open H
  rcases hp with ⟨rfl, rfl⟩ | ⟨g, cap, cur, rfl, _⟩
  · exact ⟨none, 0, rfl⟩
  · exact ⟨_, cap, rfl⟩

theorem el_of_flat {k cap : Nat} {els : List (Array Value)} {cur : Array Value} (hk : ∀ x ∈ els, x.size = k) (hc : els.length ≤ cap) (hs : cur.size = cap * k) (ht : cur.toList.take (els.length * k) = flat els) {i : Nat} (hi : i < els.length) :
    0 + i * k + k ≤ cur.size ∧ cur.extract (0 + i * k) (0 + i * k + k) = els.getD i #[] := by
  have h1 : (i + 1) * k ≤ cap * k := Nat.mul_le_mul_right _ (by omega)
  have h2 : (i + 1) * k ≤ els.length * k := Nat.mul_le_mul_right _ (by omega)
  have h3 : (i + 1) * k = i * k + k := by rw [Nat.add_mul]; omega
  refine ⟨by omega, ?_⟩
  apply Array.ext'
  rw [← flat_el hk i hi, ← ht]
  simp only [Nat.zero_add, Array.toList_extract, List.extract_eq_take_drop, List.drop_take, List.take_take]
  congr 1; omega

section
variable {P : Program} {w0 : World} {nt : Cx} {L F : List HP} {env : Env} {ty : TypeId}

theorem setRow_sat {w : World} {g : Nat} {cur cs : Array Value} {e : TypeId} (hs : Sat w0 w (pt g (.cells cur e) :: F)) : Sat w0 (w.setRow g cs) (pt g (.cells cs e) :: F) := by
  have hg := hs.read Reads.here
  refine hs.set Upd.here rfl rfl rfl rfl ?_
  apply Array.ext_getElem?
  intro i
  by_cases hi : i = g
  · subst hi
    have hlt : i < w.heap.size := (Array.getElem?_eq_some_iff.1 hg).1
    rw [setRow_heap w i cur cs e (0, 0) hg]
    simp [hlt]
  · rw [setRow_other w g i cs hi, Array.getElem?_setIfInBounds]
    simp [Ne.symm hi]

/-- The source's cells, read where it lies. -/
theorem run_append_vec {t e k bytes m c : Nat} {els news : List (Array Value)} {v : Value} {b off : Nat} {w : World} [hu : Und P t (.slice e)] [he : ElemC P e k bytes]
    (hs : Sat w0 w (vec e k els v :: F)) (hm : news.length = m) (hcell : ∀ j u, (flat news)[j]? = some u → w.cell? ((⟨b, off, none⟩ : Addr).add j) = some u) (hkn : ∀ x ∈ news, x.size = k) (h1 : ∀ u ∈ flat news, u.oneCell' = true)
    (hbytes : (els.length + m) * bytes ≤ 140737488355328) (h63 : els.length + m ≤ 140737488355328) :
    ∃ v' w', (Builtin.append_ #[t, t] ty #[v, .slice (some ⟨b, off, none⟩) m c]).run P w = .ok v' w' ∧ Sat w0 w' (vec e k (els ++ news) v' :: F) := by
  obtain ⟨i, z, hi, rfl, rfl, hz, hzs, hk⟩ := he.h
  obtain ⟨hke, hbe, hv⟩ := vec_open hs.own
  have hl : (flat news).length = m * i.size := by rw [flat_length hkn, hm]
  have hxl : (flat els).length = els.length * i.size := flat_length hke
  have hlen : (flat els ++ flat news).length = (els.length + m) * i.size := by rw [List.length_append, hxl, hl, Nat.add_mul]
  have hka : ∀ x ∈ els ++ news, x.size = i.size := fun x hx => by rcases List.mem_append.1 hx with h | h; exact hke x h; exact hkn x h
  have hla : (els ++ news).length = els.length + m := by simp [hm]
  have grown : ∀ (A : List Value) (cp : Nat), A = flat els ++ flat news → els.length + m ≤ cp → cp ≤ maxLen → Ent (pt w.heap.size (.cells (A.toArray ++ Builtin.zeroCells z.cells (cp - (els.length + m))) e) :: F) (vec e i.size (els ++ news) (.slice (some ⟨w.heap.size, 0, none⟩) (els.length + m) cp) :: F) := by
    rintro A cp rfl h1 h2
    refine Ent.vec_close hka (by omega) hla h1 h2 ?_ ?_
    · have : (flat els ++ flat news).toArray.size = (els.length + m) * i.size := by simpa using hlen
      rw [Array.size_append, this, size_zeroCells, hzs, ← Nat.add_mul]; congr 1; omega
    · rw [Array.toList_append, ← hlen, flat_append]; exact List.take_left
  have hcm : ∀ w old, grownCap w (els.length + m) old e ≤ maxLen := fun w old => grownCap_le_maxLen w (els.length + m) old e (by unfold maxLen; omega)
  rcases hv with ⟨rfl, rfl⟩ | ⟨g, cap, cur, rfl, hnc, hcap, hcs, htake, hown⟩
  · by_cases hm0 : m = 0
    · subst hm0
      obtain rfl := List.eq_nil_of_length_eq_zero hm
      refine ⟨.slice none 0 0, w, ?_, hs⟩
      simp [Builtin.append_, run_underlying hu.h, sizeOf, typeInfo, hi, Builtin.lenOf, Builtin.firstCells, loadCells, loadCellsFrom]
    · have hr := run_append_nil (P := P) w t ty e i z hu.h hi hz ⟨b, off, none⟩ m c (flat news) hl hcell (by omega) (by omega) (by simp only [List.length_nil, Nat.zero_add] at hbytes; omega)
      refine ⟨_, _, hr, ?_⟩
      have h2 := (hs.drew.alloc (.cells ((flat news).toArray ++ Builtin.zeroCells z.cells (grownCap w m 0 e - m)) e)).ent (Ent.cons (Ent.drop (Ent.refl F)))
      have h3 := grown (flat news) (grownCap w m 0 e) (by simp [flat]) (by simpa using grownCap_ge w m 0 e) (by simpa using hcm w 0)
      simp only [List.length_nil, Nat.zero_add, List.nil_append] at h3 ⊢
      exact h2.ent h3
  · have hs' : Sat w0 w (pt g (.cells cur e) :: F) := ⟨hs.os, hs.tape, hs.output, hs.size, hs.drawn, hown⟩
    have hg := hs'.read Reads.here
    by_cases hroom : els.length + m ≤ cap
    · have hfit : els.length * i.size + (flat news).length ≤ cur.size := by rw [hl, hcs, ← Nat.add_mul]; exact Nat.mul_le_mul_right _ hroom
      have hr := run_append_room (P := P) w t ty e i hu.h hi g els.length cap cur hg ⟨b, off, none⟩ m c (flat news) hl hcell h1 hroom hfit
      refine ⟨_, _, hr, (setRow_sat hs').ent (Ent.vec_close hka (by omega) hla hroom hcap ?_ ?_)⟩
      · simp only [List.size_toArray, List.length_append, List.length_take, List.length_drop, Array.length_toList]
        omega
      · rw [htake, ← hlen, flat_append]; exact List.take_left
    · have holds : ∀ j u, (flat els)[j]? = some u → w.cell? ((⟨g, 0, none⟩ : Addr).add j) = some u := fun j u hj => by
        rw [addr_add, cell?_of hg, Nat.zero_add, ← Array.getElem?_toList]
        rw [← htake, List.getElem?_take] at hj
        split at hj
        · exact hj
        · cases hj
      have hr := run_append_grow (P := P) w t ty e i z hu.h hi hz ⟨g, 0, none⟩ els.length cap (flat els) hxl holds ⟨b, off, none⟩ m c (flat news) hl hcell (by omega) (by omega) (growslice_fits (by omega) hbytes)
      refine ⟨_, _, hr, ?_⟩
      have h2 := (hs'.drew.alloc (.cells ((flat els).toArray ++ (flat news).toArray ++ Builtin.zeroCells z.cells (grownCap w (els.length + m) cap e - (els.length + m))) e)).ent (Ent.cons (Ent.drop (Ent.refl F)))
      have h3 := grown (flat els ++ flat news) (grownCap w (els.length + m) cap e) rfl (grownCap_ge w (els.length + m) cap e) (hcm w cap)
      rw [show (flat els ++ flat news).toArray = (flat els).toArray ++ (flat news).toArray by simp] at h3
      exact h2.ent h3

/-- append to a row of the call's own, of a small row that is written out: one element -/
theorem W_append1 {t e k bytes c : Nat} {x y : Operand} {els : List (Array Value)} {v : Value} {b : Nat} [Und P t (.slice e)] [ElemC P e k bytes] {ca : Array Value} {T : TypeId} {fr : Nat × Nat}
    (hx : evO env x = some v) (hy : evO env y = some (.slice (some ⟨b, 0, none⟩) 1 c)) (hr : Rem (vec e k els v) L F) (hb : ReadC F b (.cells ca T fr)) (hle : Nat.beq ca.toList.length k = true)
    (h1 : ca.toList.all Value.oneCell' = true) (hbytes : (els.length + 1) * bytes ≤ 140737488355328 ∧ els.length + 1 ≤ 140737488355328) :
    OpW P w0 nt L env (.call ⟨.builtin .append, #[x, y], #[t, t]⟩) ty (fun v' L' => L' = vec e k (els ++ [ca]) v' :: F) := .mk fun o ho hty a ha w hs => by
  have hsz : ca.size = k := by simpa using hle
  have hs' := hs.ent hr.ent
  obtain ⟨v', w', h2, h3⟩ := run_append_vec (P := P) (ty := o.type) (c := c) (t := t) (b := b) (off := 0) (news := [ca]) (m := 1) hs' rfl (fun j u hj => by
    rw [addr_add, cell?_of (hs'.read (Reads.there hb.h)), Nat.zero_add]
    simpa [flat] using hj) (by simpa using hsz) (fun u hu => List.all_eq_true.1 h1 u (by simpa [flat] using hu)) hbytes.1 hbytes.2
  refine ⟨v', w', _, .inl ?_, h3, rfl⟩
  simp only [execOp, ho, resolve, invoke, builtin, Sem.run_bind, Sem.run_pure, Result.andThen_ok, List.map_toArray, List.map_cons, List.map_nil, ha.eval hx, ha.eval hy, h2]

/-- append of a slice that is read -/
theorem W_appendS {t e k bytes c m : Nat} {x y : Operand} {els news : List (Array Value)} {v : Value} {b off : Nat} [Und P t (.slice e)] [ElemC P e k bytes]
    (hx : evO env x = some v) (hy : evO env y = some (.slice (some ⟨b, off, none⟩) m c)) (hr : Rem (vec e k els v) L F) (hb : SlC F (some ⟨b, off, none⟩) k m c news)
    (hk : ∀ x ∈ news, x.size = k) (h1 : ∀ x ∈ news, ∀ u ∈ x.toList, u.oneCell' = true) (hbytes : (els.length + m) * bytes ≤ 140737488355328 ∧ els.length + m ≤ 140737488355328) :
    OpW P w0 nt L env (.call ⟨.builtin .append, #[x, y], #[t, t]⟩) ty (fun v' L' => L' = vec e k (els ++ news) v' :: F) := .mk fun o ho hty a ha w hs => by
  have hs' := hs.ent hr.ent
  obtain ⟨p, q, hsp, _, hF⟩ := own_cons.1 hs'.own
  have hlen := hb.len
  obtain ⟨i0, z0, _, hi0, _, _, _, hkpos⟩ := (inferInstance : ElemC P e k bytes).h
  obtain ⟨v', w', h2, h3⟩ := run_append_vec (P := P) (ty := o.type) (c := c) (t := t) (b := b) (off := off) (news := news) hs' hlen (fun j u hj => by
    have hj' : j < news.length * k := by
      rw [← flat_length hk]
      exact (List.getElem?_eq_some_iff.1 hj).1
    have hi : j / k < news.length := by rwa [Nat.div_lt_iff_lt_mul hkpos]
    obtain ⟨b', off', ca, T, fr, e1, e2, e3, e4⟩ := hb.at_ q hF (j / k) (by omega)
    simp only [Option.some.injEq, Addr.mk.injEq, and_true] at e1
    obtain ⟨rfl, rfl⟩ := e1
    have e5 : w.heap[b]? = some (.cells ca T fr) := by
      have := hsp b; simp_all
    rw [addr_add, cell?_of e5]
    have hmod : j % k < k := Nat.mod_lt _ hkpos
    have h6 := flat_el hk (j / k) hi
    rw [← e4] at h6
    have h7 : ((flat news).drop (j / k * k)).take k = (ca.extract (off + j / k * k) (off + j / k * k + k)).toList := h6
    have h8 := congrArg (·[j % k]?) h7
    simp only [List.getElem?_take, hmod, if_true, List.getElem?_drop, Array.getElem?_toList, Array.getElem?_extract] at h8
    have h9 : j / k * k + j % k = j := by rw [Nat.mul_comm]; exact Nat.div_add_mod j k
    rw [h9, hj, if_pos (by omega)] at h8
    rw [h8]; congr 1; omega) hk (fun u hu => by
      obtain ⟨x, hx, hux⟩ := List.mem_flatMap.1 hu
      exact h1 x hx u hux) hbytes.1 hbytes.2
  refine ⟨v', w', _, .inl ?_, h3, rfl⟩
  simp only [execOp, ho, resolve, invoke, builtin, Sem.run_bind, Sem.run_pure, Result.andThen_ok, List.map_toArray, List.map_cons, List.map_nil, ha.eval hx, ha.eval hy, h2]

/-- A row of the call's own is a slice that is read. -/
instance SlC.ofVec {e k n cap : Nat} {els : List (Array Value)} {p : Option Addr} {L : List HP} [hn : SlOK p n cap] [hl : Fact' (els.length = n)] :
    SlC (vec e k els (.slice p n cap) :: L) p k n cap els where
  len := hl.h
  le := hn.le
  bd := hn.bd
  ptr := hn.ptr
  at_ := fun h H i hi => by
    obtain ⟨hk, _, hv⟩ := vec_open H
    have hl := hl.h
    rcases hv with ⟨h1, rfl⟩ | ⟨g, cap', cur, h1, h2, h3, h4, h5, h6⟩
    · simp at hl; omega
    · simp only [Value.slice.injEq] at h1
      obtain ⟨rfl, _, rfl⟩ := h1
      obtain ⟨e1, e2⟩ := el_of_flat hk h2 h4 h5 (i := i) (by omega)
      exact ⟨g, 0, cur, e, (0, 0), rfl, Reads.own Reads.here h6, e1, e2⟩

/-- What the world says of such a row's value. -/
theorem vec_fact {e k : Nat} {els : List (Array Value)} {v : Value} {h : Hp} (H : Own (vec e k els v :: F) h) : ∃ p cap, v = .slice p els.length cap ∧ SlOK p els.length cap := by
  obtain ⟨_, hb, hp⟩ := vec_open H
  rcases hp with ⟨rfl, rfl⟩ | ⟨g, cap, cur, rfl, h1, _⟩
  · exact ⟨none, 0, rfl, ⟨by simp, by simp, by simp⟩⟩
  · exact ⟨_, cap, rfl, ⟨h1, hb, fun _ => ⟨g, 0, rfl⟩⟩⟩
end
end Go.SL

/-
  OWN BASE, PART 6: stores into the elements of a slice of the call's own; shorter slices; the empty one.
-/
namespace Go.SL
open Go

section
variable {P : Program} {w0 : World} {nt : Cx} {L F : List HP} {env : Env} {ty : TypeId}

theorem flat_set {k : Nat} : ∀ {els : List (Array Value)} (i : Nat) (c : Array Value) (f : Nat) (v : Value), (∀ x ∈ els, x.size = k) → els[i]? = some c → f < k →
    flat (els.set i (c.setIfInBounds f v)) = (flat els).set (i * k + f) v
  | [], i, c, f, v, _, h, _ => by simp at h
  | e :: r, 0, c, f, v, hk, h, hf => by
    obtain rfl : e = c := by simpa using h
    have h1 := hk e (by simp)
    simp only [flat, List.set_cons_zero, List.flatMap_cons, Nat.zero_mul, Nat.zero_add]
    rw [List.set_append_left _ _ (by simpa [h1] using hf), Array.toList_setIfInBounds]
  | e :: r, i + 1, c, f, v, hk, h, hf => by
    have h1 := hk e (by simp)
    have h2 := flat_set (els := r) i c f v (fun x hx => hk x (by simp [hx])) (by simpa using h) hf
    simp only [flat, List.set_cons_succ, List.flatMap_cons] at h2 ⊢
    rw [h2, List.set_append_right _ _ (by rw [Array.length_toList, h1, Nat.add_mul]; omega)]
    congr 2
    rw [Array.length_toList, h1, Nat.add_mul]; omega

/-- one field of an element of a slice of the call's own -/
theorem W_store_elf {t : TypeId} {x y : Operand} {e k g off i f n cap : Nat} {els : List (Array Value)} {cs : Array Value} {v : Value} [SizeC P t 1] (hx : evO env x = some (.pointer (some ⟨g, off + i * k + f, none⟩)))
    (hy : evO env y = some v) (hr : Rem (vec e k els (.slice (some ⟨g, off, none⟩) n cap)) L F) (h1 : v.oneCell' = true) (hi : i < els.length) (hv : els.getD i #[] = cs) (hf : Nat.blt f k = true) {l' : List Value} (hl : lset cs.toList f v = l') :
    OpW P w0 nt L env (.store t x y) ty (fun u L2 => u = undef ∧ L2 = vec e k (els.set i l'.toArray) (.slice (some ⟨g, off, none⟩) n cap) :: F) := .mk fun o ho hty a ha w hs => by
  have hs' := hs.ent (Ent.pick hr (Ent.refl F))
  obtain ⟨hke, hb, hp⟩ := vec_open hs'.own
  rcases hp with ⟨h, _⟩ | ⟨g', cap', cur, h, hnc, hcm, hsz, htk, H⟩
  · cases h
  simp only [Value.slice.injEq, Option.some.injEq, Addr.mk.injEq, and_true] at h
  obtain ⟨⟨rfl, rfl⟩, rfl, rfl⟩ := h
  have hs2 : Sat w0 w (pt g (.cells cur e) :: F) := ⟨hs'.os, hs'.tape, hs'.output, hs'.size, hs'.drawn, H⟩
  have hf' : f < k := by simpa using hf
  have hik : i * k + f < els.length * k := by
    have : (i + 1) * k ≤ els.length * k := Nat.mul_le_mul_right k hi
    rw [Nat.add_mul] at this; omega
  have hcap : els.length * k ≤ cap * k := Nat.mul_le_mul_right k hnc
  have hcs : els[i]? = some cs := by rw [← hv]; simp [hi]
  have hst := W_store1 (P := P) (w0 := w0) (nt := nt) (ty := ty) (t := t) (L := pt g (.cells cur e) :: F) hx hy Cell.head h1 (by omega) (by simp)
  obtain ⟨v2, w2, L2, h2, h3, rfl, rfl⟩ := hst.h o ho hty a ha w hs2
  refine ⟨undef, w2, _, h2, h3.ent (Ent.vec_close ?_ ?_ ?_ hnc hcm ?_ ?_), rfl, rfl⟩
  · intro z hz
    rcases List.mem_or_eq_of_mem_set hz with hz | rfl
    · exact hke z hz
    · rw [← hl, lset_eq, List.size_toArray, List.length_set, Array.length_toList]; exact hke cs (List.mem_of_getElem? hcs)
  · rw [List.length_set]; exact hb
  · rw [List.length_set]
  · rw [Array.size_setIfInBounds]; exact hsz
  · have hl2 : l'.toArray = cs.setIfInBounds f v := by rw [← hl, lset_eq]; apply Array.ext'; simp
    rw [hl2, flat_set i cs f v hke hcs hf', Array.toList_setIfInBounds, List.take_set, htk]
    congr 1; omega

/-- a shorter slice of the same row -/
theorem Ent.vec_take {e k n cap m : Nat} {p : Option Addr} {els : List (Array Value)} {F : List HP} (hm : m ≤ els.length) : Ent (vec e k els (.slice p n cap) :: F) (vec e k (els.take m) (.slice p m cap) :: F) := Ent.mk fun h H => by
  obtain ⟨hke, hb, hp⟩ := vec_open H
  rcases hp with ⟨h, rfl⟩ | ⟨g, cap', cur, h, hnc, hcm, hsz, htk, HH⟩
  · cases h
    obtain rfl : m = 0 := by simpa using hm
    exact H
  · cases h
    have hlm : (els.take m).length = m := by rw [List.length_take]; omega
    have hkt : ∀ x ∈ els.take m, x.size = k := fun x hx => hke x (List.mem_of_mem_take hx)
    refine (Ent.vec_close hkt (by omega) hlm (by omega) hcm hsz ?_).own HH
    have h1 : flat els = flat (els.take m) ++ flat (els.drop m) := by rw [← flat_append, List.take_append_drop]
    have h2 : (flat (els.take m)).length = m * k := by rw [flat_length hkt, hlm]
    have h3 : m * k ≤ els.length * k := Nat.mul_le_mul_right k hm
    have h4 := congrArg (List.take (m * k)) htk
    rw [List.take_take, Nat.min_eq_left h3, h1, ← h2, List.take_left] at h4
    rw [← h2]; exact h4

/-- a slice of no elements, that is not nil -/
theorem W_buildSlice0 {t e : TypeId} {n : Nat} [hu : Und P t (.slice e)] [hz : SizeC P e n] :
    OpW P w0 nt L env (.buildSlice t 0 #[]) ty (fun u L' => ∃ b, u = .slice (some ⟨b, 0, none⟩) 0 0 ∧ L' = vec e n [] (.slice (some ⟨b, 0, none⟩) 0 0) :: L) := .mk fun o ho _ a hr w hs => by
  refine ⟨_, _, _, .inl ?_, (hs.alloc (.cells #[] e)).ent (Ent.vec_close (k := n) (n := 0) (cap := 0) (els := []) (by simp) (by simp) rfl (Nat.le_refl _) (by unfold maxLen; omega) (by simp) (by simp [flat])), w.heap.size, rfl, rfl⟩
  simp [execOp, ho, Instr.buildSlice, run_underlying hu.h, hz.h, Instr.fill, newRow, run_newObj]
  rw [show Array.range 0 = #[] by simp [Array.range_zero'], Array.map_empty]
end
end Go.SL

/-
  OWN BASE, PART 7: type assertions; a call that is deferred and finds nothing to recover.
-/
namespace Go.SL
open Go

section
variable {P : Program} {w0 : World} {nt : Cx} {L F : List HP} {env : Env} {ty : TypeId} {Q : Exit → Act → World → Prop}

theorem R_assert_ok {xt t : TypeId} {x : Operand} {v : Value} [hn : NotIface P t] (hx : evO env x = some (.iface t v)) : OpR P w0 nt L env (.typeAssert x xt t true) ty (.tuple #[v, .bool true]) := .mk fun o ho _ a hr w _ => by
  obtain ⟨d, h1, h2⟩ := hn.h
  have hu : (underlying t).run P w = .ok d w := run_underlying h1 w
  cases d <;> simp_all [execOp, Instr.typeAssert, hr.eval hx]
theorem R_assert_no {xt t t' : TypeId} {x : Operand} {v z : Value} [hn : NotIface P t] [hz : ZeroC P t z] (hx : evO env x = some (.iface t' v)) (hne : Nat.beq t' t = false) :
    OpR P w0 nt L env (.typeAssert x xt t true) ty (.tuple #[z, .bool false]) := .mk fun o ho _ a hr w _ => by
  obtain ⟨d, h1, h2⟩ := hn.h
  have hu : (underlying t).run P w = .ok d w := run_underlying h1 w
  have h3 : t' ≠ t := ne_of_nbeq hne
  have h4 := hz.h w
  cases d <;> simp_all [execOp, Instr.typeAssert, hr.eval hx]
theorem R_assert {xt t : TypeId} {x : Operand} {v : Value} [hn : NotIface P t] (hx : evO env x = some (.iface t v)) : OpR P w0 nt L env (.typeAssert x xt t false) ty v := .mk fun o ho _ a hr w _ => by
  obtain ⟨d, h1, h2⟩ := hn.h
  have hu : (underlying t).run P w = .ok d w := run_underlying h1 w
  cases d <;> simp_all [execOp, Instr.typeAssert, hr.eval hx]

/-! ### deferred calls -/
/-- the same place, with one more call deferred -/
def Cx.defer (c : Cx) (d : Deferred) : Cx := { c with ds := d :: c.ds }
theorem Rel.defer {env : Env} {a : Act} (h : Rel nt env a) (d : Deferred) : Rel (nt.defer d) env { a with defers := d :: a.defers } := ⟨by show d :: a.defers = d :: nt.ds; rw [h.defers], h.size, h.get⟩

/-- 'defer f()' of a closure, out of a round -/
theorem swl_defer {ops : Array Oper} {rest : List Oper} {pos : String} {after : Array Edge} {x : Operand} {g : FuncId} {ca : Array Value} (hro : nt.r = none) (hx : evO env x = some (.func (.func g) #[] ca))
    (h : SWL P w0 (nt.defer { target := .fn (.func g) ca, args := #[] }) L env ops rest Q) : SWL P w0 nt L env ops (⟨none, .defer ⟨.value x, #[], #[]⟩, ty, pos, after, none⟩ :: rest) Q := .mk fun w a hs hr => by
  unfold wpListIn
  rw [if_pos (by simp [Region.wanted])]
  refine ⟨fun _ _ => trivial, ?_⟩
  have hev := hr.eval hx
  have hsem : ((⟨none, .defer ⟨.value x, #[], #[]⟩, ty, pos, after, none⟩ : Oper).semAt (fen nt.r).round a.eval).run P w = .ok (.defer { target := .fn (.func g) ca, args := #[] }) w := by
    show (Oper.semAt nt.r a.eval _).run P w = _
    rw [hro, Oper.semAt_none]
    simp only [execOp, resolve, hev, Deferred.ofValue, List.map_toArray, List.map_nil, Sem.run_bind, Sem.run_pure, Result.andThen_ok]
    rfl
  rw [hsem, Oper.uponIn_defer]
  exact h.h w _ hs (hr.defer _)

/-- The way out, where the one deferred call finds nothing to recover. -/
theorem sx_leave1 {fn : Func} {R : Value → List HP → Prop} {v : Value} {g : FuncId} {ca : Array Value} [hc : CallC P g] (hg : ∀ w, CallsDIn Fence.wide 0 P g ca .returning w fun e u' w' => e = .returned (.tuple #[]) ∧ u' = .returning ∧ w' = w)
    (hres : ∀ a w, Rel nt env a → Sat w0 w L → (results fn a.tmps).run P w = .ok v w) (L' : List HP) (hR : R v L') (he : Ent L L') (hd : nt.ds = [{ target := .fn (.func g) ca, args := #[] }]) {e : Exit} (hn : e = .normal ∨ e = .ret) :
    SX w0 nt L env e (FQ P w0 fn R) := .mk fun w a hs hr => by
  have h0 := hr.defers.trans hd
  have key : LeavesInM Fence.wide 0 P fn a.tmps (fun e w' => ∃ v L', e = .returned v ∧ Sat w0 w' L' ∧ R v L') a.defers .returning w := by
    rw [h0]
    refine ⟨by simp, .inr ⟨fun h => by simp [Fence.wide] at h, .func g, ca, g, ca, rfl, by simp [invoke, hc.h], fun _ _ => trivial, trivial, fun c cs hc' hroom => ?_⟩⟩
    obtain ⟨e, u', w', fr, ⟨rfl, rfl, rfl⟩, h2, h3, h4, h5⟩ := (hg w).2 c cs hc' hroom
    refine ⟨_, _, _, fr, ?_, h2, h3, h4, h5⟩
    exact ⟨v, hres a _ hr hs, v, L', rfl, hs.ent he, hR⟩
  rcases hn with rfl | rfl <;> exact key

/-! ### results that lie in cells -/
theorem ResOne.cell1 {r b : Nat} {t : TypeId} {off : Nat} {c : Array Value} {T : TypeId} {fr : Nat × Nat} {v : Value} [hg : AggC P t false] (hx : env.get r = some (.pointer (some ⟨b, off, none⟩))) (hb : ReadC L b (.cells c T fr)) (hv : lget c.toList off = some v) :
    ResOne P w0 nt L env (.cell r t) v := .mk fun a w hr hs => by
  have e2 := hs.read hb.h
  have e5 : c[off]? = some v := by rw [lget_eq] at hv; simpa using hv
  simp only [resSem, Array.getD_eq_getD_getElem?, hr.get r _ hx, Option.getD_some, asAddr, loadVar, Sem.run_bind, Sem.run_pure, hg.h, Result.andThen_ok, Bool.false_eq_true, if_false, run_load, cell?_of e2, e5]
theorem ResOne.cellA {r b n : Nat} {t : TypeId} {c : Array Value} {T : TypeId} {fr : Nat × Nat} [hg : AggC P t true] [hz : SizeC P t n] (hx : env.get r = some (.pointer (some ⟨b, 0, none⟩))) (hb : ReadC L b (.cells c T fr)) (hn : Nat.beq c.toList.length n = true) :
    ResOne P w0 nt L env (.cell r t) (.agg c) := .mk fun a w hr hs => by
  have e2 := hs.read hb.h
  have h : c.size = n := by simpa using hn
  have e4 : c.extract 0 (0 + n) = c := by simp [← h]
  simp only [resSem, Array.getD_eq_getD_getElem?, hr.get r _ hx, Option.getD_some, asAddr, loadVar, Sem.run_bind, Sem.run_pure, hg.h, hz.h, Result.andThen_ok, if_true, run_loadCells_of e2 (show 0 + n ≤ c.size by omega), e4]
end
end Go.SL

/-
  OWN BASE, PART 8: structs and slices that are built out of their parts.
-/
namespace Go.SL
open Go

def lsets (l : List Value) (off : Nat) : List Value → List Value
  | [] => l
  | v :: r => lsets (lset l off v) (off + 1) r
theorem lsets_wrs : ∀ (r l : List Value) (off : Nat), (lsets l off r).toArray = wrs l.toArray off r
  | [], _, _ => rfl
  | v :: r, l, off => by
    rw [lsets, wrs, lsets_wrs r, lset_eq]
    congr 1; apply Array.ext'; simp
theorem length_lsets : ∀ (r l : List Value) (off : Nat), (lsets l off r).length = l.length
  | [], _, _ => rfl
  | v :: r, l, off => by rw [lsets, length_lsets r, lset_eq, List.length_set]
theorem fold_wrs : ∀ (l : List Value) (d off : Nat) (a : Array Value), (l.zipIdx d).foldl (fun cs (x : Value × Nat) => cs.setIfInBounds (off + x.2) x.1) a = wrs a (off + d) l
  | [], _, _, _ => rfl
  | v :: r, d, off, a => by
    simp only [List.zipIdx_cons, List.foldl_cons, wrs]
    exact fold_wrs r (d + 1) off _
theorem fold_wrs' (c a : Array Value) (off : Nat) : c.zipIdx.foldl (fun cs (x : Value × Nat) => cs.setIfInBounds (off + x.2) x.1) a = wrs a off c.toList := by
  rw [← Array.foldl_toList, Array.toList_zipIdx]
  exact fold_wrs c.toList 0 off a

def nth : List (Nat × Nat) → Nat → Option (Nat × Nat)
  | [], _ => none
  | x :: _, 0 => some x
  | _ :: r, n + 1 => nth r n
theorem nth_eq : ∀ (l : List (Nat × Nat)) (n : Nat), nth l n = l[n]?
  | [], _ => by simp [nth]
  | _ :: _, 0 => by simp [nth]
  | _ :: r, n + 1 => by simp [nth, nth_eq r n]
def fillL (place : List (Nat × Nat)) (l : List Value) : List (Nat × Value) → Option (List Value)
  | [] => some l
  | (i, v) :: r =>
    match nth place i with
    | none => none
    | some (off, size) =>
      match Nat.beq v.cells.toList.length size && Nat.ble (off + size) l.length with
      | true => fillL place (lsets l off v.cells.toList) r
      | false => none
theorem fillL_fill {pl : Array (Nat × Nat)} : ∀ (ps : List (Nat × Value)) (l l' : List Value), fillL pl.toList l ps = some l' → Instr.fill (pl[·]?) l.toArray ps = some l'.toArray
  | [], l, l', h => by simp only [fillL, Option.some.injEq] at h; simp [Instr.fill, h]
  | (i, v) :: r, l, l', h => by
    simp only [fillL, nth_eq, Array.getElem?_toList] at h
    split at h
    · cases h
    · rename_i off size hp
      split at h
      · rename_i hb
        simp only [Bool.and_eq_true, Nat.beq_eq, Nat.ble_eq, Array.length_toList] at hb
        have h1 := fillL_fill r _ _ h
        simp only [Instr.fill, hp]
        rw [if_neg (by simp [hb.1]; omega), fold_wrs', ← lsets_wrs]
        exact h1
      · cases h

theorem wrs_mid : ∀ (l d a s : List Value), a.length = l.length → wrs (d ++ a ++ s).toArray d.length l = (d ++ l ++ s).toArray
  | [], d, a, s, h => by
    obtain rfl := List.eq_nil_of_length_eq_zero h
    simp [wrs]
  | v :: r, d, u :: a', s, h => by
    simp only [wrs]
    have h1 : (d ++ u :: a' ++ s).toArray.setIfInBounds d.length v = ((d ++ [v]) ++ a' ++ s).toArray := by apply Array.ext'; simp
    rw [h1, show d.length + 1 = (d ++ [v]).length by simp, wrs_mid r (d ++ [v]) a' s (by simpa using h)]
    simp

/-- parts that stand in order -/
def inOrder : Nat → List (Nat × Value) → Bool
  | _, [] => true
  | k, (i, _) :: r => Nat.beq i k && inOrder (k + 1) r
def cellsL : List (Nat × Value) → List (Array Value)
  | [] => []
  | (_, v) :: r => v.cells :: cellsL r
theorem length_cellsL : ∀ (l : List (Nat × Value)), (cellsL l).length = l.length
  | [] => rfl
  | _ :: r => by simp [cellsL, length_cellsL r]
def sizesL (n : Nat) : List (Nat × Value) → Bool
  | [] => true
  | (_, v) :: r => Nat.beq v.cells.toList.length n && sizesL n r
theorem sizesL_mem {n : Nat} : ∀ {l : List (Nat × Value)}, sizesL n l = true → ∀ x ∈ cellsL l, x.size = n
  | [], _, x, hx => by simp [cellsL] at hx
  | (_, v) :: r, h, x, hx => by
    simp only [sizesL, Bool.and_eq_true, Nat.beq_eq, Array.length_toList] at h
    rcases List.mem_cons.1 (show x ∈ v.cells :: cellsL r from hx) with rfl | hx
    · exact h.1
    · exact sizesL_mem h.2 x hx
theorem fill_els {n : Nat} : ∀ (vs : List (Nat × Value)) (k : Nat) (d a : List Value), d.length = k * n → a.length = vs.length * n → inOrder k vs = true → sizesL n vs = true →
    Instr.fill (fun i => some (i * n, n)) (d ++ a).toArray vs = some (d ++ flat (cellsL vs)).toArray
  | [], k, d, a, _, ha, _, _ => by
    obtain rfl : a = [] := List.eq_nil_of_length_eq_zero (by simpa using ha)
    simp [Instr.fill, cellsL, flat]
  | (i, v) :: r, k, d, a, hd, ha, ho, hs => by
    simp only [inOrder, Bool.and_eq_true, Nat.beq_eq] at ho
    simp only [sizesL, Bool.and_eq_true, Nat.beq_eq, Array.length_toList] at hs
    obtain ⟨rfl, ho⟩ := ho
    have ha2 : a.length = n + r.length * n := by rw [ha, List.length_cons, Nat.add_mul]; omega
    simp only [Instr.fill]
    rw [if_neg (by simp [hs.1]; omega), fold_wrs']
    have hsp : d ++ a = d ++ a.take n ++ a.drop n := by simp
    rw [← hd, hsp, wrs_mid v.cells.toList d (a.take n) (a.drop n) (by simp [hs.1]; omega)]
    rw [fill_els r (i + 1) (d ++ v.cells.toList) (a.drop n) (by simp [hs.1, hd, Nat.add_mul]) (by simp; omega) ho hs.2]
    simp [cellsL, flat]

section
variable {P : Program} {w0 : World} {nt : Cx} {L F : List HP} {env : Env} {ty : TypeId}

theorem R_buildL {t : TypeId} {ps : List (Nat × Operand)} {vs : List (Nat × Value)} {z : Value} {l : List Value} {pl : Array (Nat × Nat)} [BuildC P t pl] [ZeroC P t z] (hv : evP env ps = some vs)
    (hc : fillL pl.toList z.cells.toList vs = some l) : OpR P w0 nt L env (.build t ps.toArray) ty (.agg l.toArray) := by
  have h := fillL_fill vs _ _ hc
  exact R_build hv (by simpa using h)

theorem W_buildSliceV {t e : TypeId} {len n : Nat} {ps : List (Nat × Operand)} {vs : List (Nat × Value)} {z : Value} {els : List (Array Value)} [hu : Und P t (.slice e)] [hz : SizeC P e n] [hzz : ZeroC P e z] (hv : evP env ps = some vs)
    (hlt : Nat.ble (len * n) 16777216 = true) (hn : Nat.beq (len * n) 0 = false) (hl : Nat.beq vs.length len = true) (ho : inOrder 0 vs = true) (hs : sizesL n vs = true) (he : cellsL vs = els) :
    OpW P w0 nt L env (.buildSlice t len ps.toArray) ty (fun u L' => ∃ b, u = .slice (some ⟨b, 0, none⟩) len len ∧ L' = vec e n els (.slice (some ⟨b, 0, none⟩) len len) :: L ∧ SlOK (some ⟨b, 0, none⟩) len len ∧ Fact' (els.length = len)) := .mk fun o ho' hty a hr w hsat => by
  subst he
  have hl' : vs.length = len := by simpa using hl
  have hfill := fill_els (n := n) vs 0 [] ((Array.range (len * n)).map (z.cells[· % z.cells.size]!)).toList (by simp) (by simp [hl']) ho hs
  simp only [List.nil_append, Array.toArray_toList] at hfill
  obtain ⟨u, w', L', h1, h2, b, rfl, rfl⟩ := (W_buildSlice (P := P) (w0 := w0) (nt := nt) (L := L) (ty := ty) (t := t) hv hlt hn hfill).h o ho' hty a hr w hsat
  have hsz := sizesL_mem hs
  have hlen : (cellsL vs).length = len := by rw [length_cellsL, hl']
  have hbd : len ≤ 16777216 := by
    have h0 : len * n ≤ 16777216 := by simpa using hlt
    have h1 : len * n ≠ 0 := ne_of_nbeq hn
    rcases Nat.eq_zero_or_pos n with rfl | hn0
    · simp at h1
    · exact Nat.le_trans (Nat.le_mul_of_pos_right _ hn0) h0
  refine ⟨_, w', _, h1, h2.ent (Ent.vec_close hsz (by omega) hlen (Nat.le_refl _) (by unfold maxLen; omega) ?_ ?_), b, rfl, rfl, ⟨Nat.le_refl _, by omega, fun _ => ⟨b, 0, rfl⟩⟩, ⟨hlen⟩⟩
  · rw [List.size_toArray, flat_length hsz, hlen]
  · rw [← hlen, ← flat_length hsz]; simp
end
end Go.SL

/-
  OWN BASE, PART 9: append of whatever slice that is read.
-/
namespace Go.SL
open Go

section
variable {P : Program} {w0 : World} {nt : Cx} {L F : List HP} {env : Env} {ty : TypeId}

theorem run_append_none {t e k bytes : Nat} {p q : Option Addr} {n cap c : Nat} {w : World} [hu : Und P t (.slice e)] [he : ElemC P e k bytes] (hn : n ≤ cap) :
    (Builtin.append_ #[t, t] ty #[.slice q n cap, .slice p 0 c]).run P w = .ok (.slice q n cap) w := by
  obtain ⟨i, z, hi, rfl, rfl, hz, hzs, hk⟩ := he.h
  cases p <;> cases q <;> simp [Builtin.append_, run_underlying hu.h, sizeOf, typeInfo, hi, Builtin.lenOf, Builtin.firstCells, loadCells, loadCellsFrom, storeCells, hn]

/-- append to a row of the call's own, of whatever slice that is read -/
theorem W_appendA {t e k bytes c m : Nat} {x y : Operand} {els news : List (Array Value)} {v : Value} {p : Option Addr} [Und P t (.slice e)] [ElemC P e k bytes]
    (hx : evO env x = some v) (hy : evO env y = some (.slice p m c)) (hr : Rem (vec e k els v) L F) (hb : SlC F p k m c news)
    (hk : ∀ x ∈ news, x.size = k) (h1 : ∀ x ∈ news, ∀ u ∈ x.toList, u.oneCell' = true) (hbytes : (els.length + m) * bytes ≤ 140737488355328 ∧ els.length + m ≤ 140737488355328) :
    OpW P w0 nt L env (.call ⟨.builtin .append, #[x, y], #[t, t]⟩) ty (fun v' L' => L' = vec e k (els ++ news) v' :: F) := by
  rcases Nat.eq_zero_or_pos m with rfl | hm
  · refine .mk fun o ho hty a ha w hs => ?_
    obtain rfl : news = [] := List.eq_nil_of_length_eq_zero hb.len
    have hs' := hs.ent hr.ent
    obtain ⟨q, cap, rfl, hq⟩ := vec_fact hs'.own
    refine ⟨_, w, _, .inl ?_, hs', by rw [List.append_nil]⟩
    simp only [execOp, ho, resolve, invoke, builtin, Sem.run_bind, Sem.run_pure, Result.andThen_ok, List.map_toArray, List.map_cons, List.map_nil, ha.eval hx, ha.eval hy, run_append_none (P := P) (t := t) (e := e) (k := k) (bytes := bytes) hq.le]
  · obtain ⟨b, off, rfl⟩ := hb.ptr hm
    exact W_appendS hx hy hr hb hk h1 hbytes
end
end Go.SL

/-
  OWN BASE, PART 10: the arguments of a row, as slices that are read.
-/
namespace Go.SL
open Go Go.Deep Go.ChangeShapes Go.WideShapes

theorem cells_of_cell {w : World} {b off : Nat} {v : Value} (h : w.cell? ⟨b, off, none⟩ = some v) : ∃ c T fr, w.heap[b]? = some (.cells c T fr) ∧ c[off]? = some v := by
  unfold World.cell? at h
  split at h
  · rename_i c T fr hb
    exact ⟨c, T, fr, hb, by simpa using h⟩
  · cases h

section
variable {H : Type} {enc : TypeId × Value → H} {P : Program} {w : World} {base : Nat} {spare : Nat → Bool} {held : Bool}

/-- A slice that an argument holds: a list of things, each of k cells. -/
theorem open_slc {α : Type} [Inhabited α] (ec : α → Array Value) (Q : α → Prop) {k : Nat} (hk : ∀ a, (ec a).size = k) (h0 : 0 < k) {t e : TypeId} {fuel : Nat} {p : Option Addr} {n cap : Nat} {x : DataW H × List MemPlace} (ht : P.underlying t = some (.slice e)) (hc : P.cellsOf e = k)
    (hel : ∀ cs m y, DataW.trod enc P w base spare held m e cs = some y → ∃ a, cs = (ec a).toList ∧ Q a) (h : DataW.trod enc P w base spare held fuel t [.slice p n cap] = some x)
    (hb : ∀ elems sp, x.1 = .slice elems sp → elems.length ≤ 140737488355328) :
    ∃ l : List α, SlC [whole w] p k n cap (l.map ec) ∧ (∀ a ∈ l, Q a) ∧ n = l.length := by
  rcases open_slice ht h with ⟨h1, _⟩ | ⟨a, len, cp, m, fu, D, Pl, h1, _, hl, hm, hmm, rfl, hx⟩
  · simp only [List.cons.injEq, Value.slice.injEq, and_true] at h1
    obtain ⟨rfl, rfl, rfl⟩ := h1
    exact ⟨[], ⟨rfl, Nat.le_refl _, by simp, by simp, by simp⟩, by simp, rfl⟩
  · simp only [List.cons.injEq, Value.slice.injEq, and_true] at h1
    obtain ⟨rfl, rfl, rfl⟩ := h1
    have hlm : n ≤ m := by rw [hmm]; split <;> omega
    have hbd : n ≤ 140737488355328 := by have := hb _ _ rfl; simpa using this
    have each : ∀ i, i < n → ∃ z : α, Q z ∧ ∀ j, j < k → w.cell? ((a.add (i * k)).add j) = (ec z)[j]? := by
      intro i hi
      obtain ⟨cs', h1, h2⟩ := hx i (by omega)
      rw [hc] at h1
      obtain ⟨_, hlen, hcell⟩ := World.cells?_some h1
      obtain ⟨z, rfl, hq⟩ := hel _ _ _ h2
      exact ⟨z, hq, fun j hj => by rw [hcell j hj]; simp⟩
    obtain ⟨f, hf⟩ := choose_lt each
    have hlen : ((List.range n).map f).length = n := by simp
    refine ⟨(List.range n).map f, ⟨by simp, hl, hbd, ?_, ?_⟩, ?_, hlen.symm⟩
    · intro hn
      have h1 := (hf 0 hn).2 0 h0
      rw [Array.getElem?_eq_getElem (by rw [hk]; exact h0)] at h1
      have hs := World.cell?_spot h1
      obtain ⟨b, off, spot⟩ := a
      have : spot = none := by simpa [Addr.add] using hs
      exact ⟨b, off, by rw [this]⟩
    · intro hh hown i hi
      have hcl := (hf i hi).2
      have hs0 := hcl 0 h0
      rw [Array.getElem?_eq_getElem (by rw [hk]; exact h0)] at hs0
      obtain ⟨b, off, spot⟩ := a
      have hz0 := (hf 0 (by omega)).2 0 h0
      rw [Array.getElem?_eq_getElem (show 0 < (ec (f 0)).size by rw [hk]; exact h0)] at hz0
      have hsp : spot = none := by have := World.cell?_spot hz0; simpa [Addr.add] using this
      subst hsp
      simp only [addr_add] at hcl hs0
      obtain ⟨c, T, fr, hb1, hc1⟩ := cells_of_cell hs0
      have hall : ∀ j, j < k → c[off + i * k + j]? = (ec (f i))[j]? := by
        intro j hj
        have h2 := hcl j hj
        rw [cell?_of hb1] at h2
        exact h2
      have hlast := hall (k - 1) (by omega)
      rw [Array.getElem?_eq_getElem (show k - 1 < (ec (f i)).size by rw [hk]; omega)] at hlast
      have hsz := (Array.getElem?_eq_some_iff.1 hlast).1
      refine ⟨b, off, c, T, fr, rfl, Reads.own (Reads.whole hb1) hown, by omega, ?_⟩
      have hget : (((List.range n).map f).map ec).getD i #[] = ec (f i) := by simp [hi]
      rw [hget]
      apply Array.ext_getElem?
      intro j
      rw [Array.getElem?_extract]
      by_cases hj : j < k
      · rw [if_pos (by omega)]; exact hall j hj
      · rw [if_neg (by omega), Array.getElem?_eq_none (by rw [hk]; omega)]
    · intro z hz
      obtain ⟨i, hi, rfl⟩ := List.mem_map.1 hz
      exact (hf i (List.mem_range.1 hi)).1
end
end Go.SL

/-
  OWN BASE, PART 11: maps of the call's own, by what they answer.
-/
namespace Go.SL
open Go Go.MapKept

/-- Block r is a map whose keys are of type d; asked for a key it answers f. -/
def mp (d : TypeDesc) (r : Nat) (f : Value → Option Value) : HP := fun h => ∃ es clock, h r = some (.map es clock) ∧ (∀ x ∈ es.toList, IsKey d x.key) ∧ (es.toList.map (·.key)).Nodup ∧
  ∀ k v, (∃ x ∈ es.toList, x.key = k ∧ x.val = v) ↔ f k = some v

theorem mp_open {d : TypeDesc} {r : Nat} {f : Value → Option Value} {F : List HP} {h : Hp} (H : Own (mp d r f :: F) h) : ∃ es clock, Own (pt r (.map es clock) :: F) h ∧ (∀ x ∈ es.toList, IsKey d x.key) ∧ (es.toList.map (·.key)).Nodup ∧
    ∀ k v, (∃ x ∈ es.toList, x.key = k ∧ x.val = v) ↔ f k = some v := by
  obtain ⟨p, q, hs, ⟨es, clock, h1, h2, h3, h4⟩, hF⟩ := own_cons.1 H
  exact ⟨es, clock, own_cons.2 ⟨p, q, hs, pt_iff.2 h1, hF⟩, h2, h3, h4⟩
theorem Ent.mp_close {d : TypeDesc} {r clock : Nat} {f : Value → Option Value} {F : List HP} {es : Array MapEntry} (h2 : ∀ x ∈ es.toList, IsKey d x.key) (h3 : (es.toList.map (·.key)).Nodup)
    (h4 : ∀ k v, (∃ x ∈ es.toList, x.key = k ∧ x.val = v) ↔ f k = some v) : Ent (pt r (.map es clock) :: F) (mp d r f :: F) := Ent.mk fun _ H => by
  obtain ⟨p, q, hs, hp, hF⟩ := own_cons.1 H
  exact own_cons.2 ⟨p, q, hs, ⟨es, clock, pt_iff.1 hp, h2, h3, h4⟩, hF⟩
theorem Ent.mp_empty {d : TypeDesc} {r : Nat} {F : List HP} : Ent (pt r (.map #[] 0) :: F) (mp d r (fun _ => none) :: F) := Ent.mp_close (by simp) (by simp) (by simp)

/-- the map r, found by instance -/
class MpC (L : List HP) (r : Nat) (d : outParam TypeDesc) (f : outParam (Value → Option Value)) : Prop where
  h : ∀ h, Own L h → ∃ es clock, h r = some (.map es clock) ∧ (∀ x ∈ es.toList, IsKey d x.key) ∧ ∀ k v, (∃ x ∈ es.toList, x.key = k ∧ x.val = v) ↔ f k = some v
instance MpC.head {d : TypeDesc} {r : Nat} {f : Value → Option Value} {L : List HP} : MpC (mp d r f :: L) r d f := ⟨fun h H => by
  obtain ⟨es, clock, h1, h2, _, h4⟩ := mp_open H
  exact ⟨es, clock, Reads.own Reads.here h1, h2, h4⟩⟩
instance (priority := low) MpC.tail {d : TypeDesc} {r : Nat} {f : Value → Option Value} {p : HP} {L : List HP} [h : MpC L r d f] : MpC (p :: L) r d f := ⟨fun g H => by
  obtain ⟨a, b, hs, _, hL⟩ := own_cons.1 H
  obtain ⟨es, clock, h1, h2⟩ := h.h b hL
  have h3 := hs r
  rcases hL' : a r with _ | o
  · exact ⟨es, clock, by simp_all, h2⟩
  · exact ⟨es, clock, by simp_all, h2⟩⟩

section
variable {P : Program} {w0 : World} {nt : Cx} {L F : List HP} {env : Env} {ty : TypeId}

theorem find_of {d : TypeDesc} {es : List MapEntry} {f : Value → Option Value} {k : Value} (hk : IsKey d k) (h2 : ∀ x ∈ es, IsKey d x.key) (h4 : ∀ k v, (∃ x ∈ es, x.key = k ∧ x.val = v) ↔ f k = some v) :
    (f k = none → Instr.findNow d k es 0 = some none) ∧ ∀ v, f k = some v → ∃ j, Instr.findNow d k es 0 = some (some (j, v)) ∧ ∃ e, es[j]? = some e ∧ e.key = k := by
  rcases findNow_spec hk es 0 h2 with ⟨h1, hn⟩ | ⟨j, e, h1, he, hek⟩
  · refine ⟨fun _ => h1, fun v hv => ?_⟩
    obtain ⟨x, hx, hxk, _⟩ := (h4 k v).2 hv
    exact absurd hxk (hn x hx)
  · have hf : f k = some e.val := (h4 k e.val).1 ⟨e, List.mem_of_getElem? he, hek, rfl⟩
    refine ⟨fun h => absurd (hf.symm.trans h) (by simp), fun v hv => ?_⟩
    rw [hf] at hv
    obtain rfl := Option.some.inj hv
    exact ⟨j, by rw [h1, Nat.zero_add], e, he, hek⟩

theorem R_lookup_yes {t kt et : TypeId} {d d' : TypeDesc} {x i : Operand} {r : Nat} {k v : Value} {f : Value → Option Value} [hm : Und P t (.map kt et)] [hd : Und P kt d] (hx : evO env x = some (.map (some r))) (hi : evO env i = some k)
    (hc : MpC L r d' f) (he : d' = d) (hk : IsKey d k) (hv : f k = some v) : OpR P w0 nt L env (.lookup t x i true) ty (.tuple #[v, .bool true]) := .mk fun o ho _ a hr w hs => by
  subst he
  obtain ⟨es, clock, h1, h2, h4⟩ := hc.h _ hs.own
  obtain ⟨j, h5, _⟩ := (find_of hk h2 h4).2 v hv
  simp [execOp, ho, Instr.lookup, hr.eval hx, hr.eval hi, run_underlying hm.h, MapKept.run_getObj_map h1, MapKept.run_checkKey hd.h hk, MapKept.run_findKey hd.h h5]
theorem R_lookup_no {t kt et : TypeId} {d d' : TypeDesc} {x i : Operand} {r : Nat} {k z : Value} {f : Value → Option Value} [hm : Und P t (.map kt et)] [hd : Und P kt d] [hz : ZeroC P et z] (hx : evO env x = some (.map (some r))) (hi : evO env i = some k)
    (hc : MpC L r d' f) (he : d' = d) (hk : IsKey d k) (hv : f k = none) : OpR P w0 nt L env (.lookup t x i true) ty (.tuple #[z, .bool false]) := .mk fun o ho _ a hr w hs => by
  subst he
  obtain ⟨es, clock, h1, h2, h4⟩ := hc.h _ hs.own
  have h5 := (find_of hk h2 h4).1 hv
  simp [execOp, ho, Instr.lookup, hr.eval hx, hr.eval hi, run_underlying hm.h, MapKept.run_getObj_map h1, MapKept.run_checkKey hd.h hk, MapKept.run_findKey hd.h h5, hz.h]

theorem W_mapUpdate {t kt et : TypeId} {d d' : TypeDesc} {x i y : Operand} {r : Nat} {k v : Value} {f : Value → Option Value} (f' : Value → Option Value) [hm : Und P t (.map kt et)] [hd : Und P kt d] (hx : evO env x = some (.map (some r))) (hi : evO env i = some k) (hy : evO env y = some v)
    (hr : Rem (mp d' r f) L F) (he : d' = d) (hk : IsKey d k) (h1 : f' k = some v) (h2 : ∀ u, u ≠ k → f' u = f u) : OpW P w0 nt L env (.mapUpdate t x i y) ty (fun u L' => u = undef ∧ L' = mp d r f' :: F) := .mk fun o ho _ a hra w hs => by
  subst he
  have hs' := hs.ent (Ent.pick hr (Ent.refl F))
  obtain ⟨es, clock, hown, hks, hnd, hsp⟩ := mp_open hs'.own
  have hs2 : Sat w0 w (pt r (.map es clock) :: F) := ⟨hs'.os, hs'.tape, hs'.output, hs'.size, hs'.drawn, hown⟩
  have hb := hs2.read Reads.here
  have setS : ∀ o', Sat w0 { w with heap := w.heap.setIfInBounds r o' } (pt r o' :: F) := fun o' => hs2.set Upd.here rfl rfl rfl rfl rfl
  rcases findNow_spec hk es.toList 0 hks with ⟨g1, g2⟩ | ⟨j, e, g1, g2, g3⟩
  · refine ⟨undef, _, _, .inr ⟨rfl, ?_⟩, (setS (.map (es.push { key := k, val := v, born := clock }) (clock + 1))).ent (Ent.mp_close ?_ ?_ ?_), rfl, rfl⟩
    · simp [execOp, ho, Instr.mapUpdate, hra.eval hx, hra.eval hi, hra.eval hy, run_underlying hm.h, MapKept.run_getObj_map hb, MapKept.run_checkKey hd.h hk, MapKept.run_findKey hd.h g1, MapKept.run_setObj_map _ hb]
    · intro z hz
      simp only [Array.toList_push, List.mem_append, List.mem_singleton] at hz
      rcases hz with hz | rfl
      · exact hks z hz
      · exact hk
    · simp only [Array.toList_push, List.map_append, List.map_cons, List.map_nil]
      refine List.nodup_append.2 ⟨hnd, by simp, ?_⟩
      intro p hp q hq
      simp only [List.mem_singleton] at hq
      subst hq
      obtain ⟨z, hz, rfl⟩ := List.mem_map.1 hp
      exact g2 z hz
    · intro u c
      simp only [Array.toList_push, List.mem_append, List.mem_singleton]
      by_cases hu : u = k
      · subst hu
        rw [h1]
        constructor
        · rintro ⟨z, hz | rfl, hzk, rfl⟩
          · exact absurd hzk (g2 z hz)
          · rfl
        · intro h; exact ⟨_, .inr rfl, rfl, Option.some.inj h⟩
      · rw [h2 u hu, ← hsp]
        constructor
        · rintro ⟨z, hz | rfl, hzk, hzv⟩
          · exact ⟨z, hz, hzk, hzv⟩
          · exact absurd hzk.symm hu
        · rintro ⟨z, hz, h⟩; exact ⟨z, .inl hz, h⟩
  · have hj : es[j]? = some e := by simpa using g2
    refine ⟨undef, _, _, .inr ⟨rfl, ?_⟩, (setS (.map (es.modify j fun e => { e with key := k, val := v }) clock)).ent (Ent.mp_close ?_ ?_ ?_), rfl, rfl⟩
    · simp [execOp, ho, Instr.mapUpdate, hra.eval hx, hra.eval hi, hra.eval hy, run_underlying hm.h, MapKept.run_getObj_map hb, MapKept.run_checkKey hd.h hk, MapKept.run_findKey hd.h g1, hj, g3, MapKept.run_keyThatStays hk, MapKept.run_setObj_map _ hb]
    · exact isKey_modify hks _ _ fun e' he' => by rw [hj] at he'; cases he'; exact g3.symm
    · rw [modify_keys _ _ fun e' he' => by rw [hj] at he'; cases he'; exact g3.symm]; exact hnd
    · intro u c
      have hmod : ∀ z, z ∈ (es.modify j fun e => { e with key := k, val := v }).toList ↔ ∃ i, (es.modify j fun e => { e with key := k, val := v })[i]? = some z := fun z => by
        rw [List.mem_iff_getElem?]; simp only [Array.getElem?_toList]; exact Iff.rfl
      have hmem : ∀ z, z ∈ es.toList ↔ ∃ i, es[i]? = some z := fun z => by
        rw [List.mem_iff_getElem?]; simp only [Array.getElem?_toList]; exact Iff.rfl
      simp only [hmod, Array.getElem?_modify]
      by_cases hu : u = k
      · subst hu
        rw [h1]
        constructor
        · rintro ⟨z, ⟨i, hi2⟩, hzk, rfl⟩
          by_cases hij : j = i
          · subst hij
            rw [if_pos rfl, hj] at hi2
            simp only [Option.map_some, Option.some.injEq] at hi2
            rw [← hi2]
          · rw [if_neg hij] at hi2
            exfalso
            have e1 : (es.toList.map (·.key))[j]? = some u := by simp [hj, g3]
            have e2 : (es.toList.map (·.key))[i]? = some u := by simp [hi2, hzk]
            have hji : j < (es.toList.map (·.key)).length := (List.getElem?_eq_some_iff.1 e1).1
            exact hij ((List.getElem?_inj hji hnd).1 (e1.trans e2.symm))
        · intro h
          obtain rfl := Option.some.inj h
          exact ⟨_, ⟨j, by rw [if_pos rfl, hj]; rfl⟩, rfl, rfl⟩
      · rw [h2 u hu, ← hsp]
        simp only [hmem]
        constructor
        · rintro ⟨z, ⟨i, hi2⟩, hzk, hzv⟩
          by_cases hij : j = i
          · subst hij
            rw [if_pos rfl, hj] at hi2
            simp only [Option.map_some, Option.some.injEq] at hi2
            subst hi2
            exact absurd hzk.symm hu
          · rw [if_neg hij] at hi2
            exact ⟨z, ⟨i, hi2⟩, hzk, hzv⟩
        · rintro ⟨z, ⟨i, hi2⟩, hzk, hzv⟩
          refine ⟨z, ⟨i, ?_⟩, hzk, hzv⟩
          have hij : ¬ j = i := by
            intro h; subst h
            rw [hj] at hi2
            obtain rfl := Option.some.inj hi2
            exact hu (hzk.symm.trans g3)
          rw [if_neg hij]; exact hi2
end
end Go.SL

/-
  OWN BASE, PART 12: a map asked for one answer alone; the sign turned.
-/
namespace Go.SL
open Go Go.MapKept
section
variable {P : Program} {w0 : World} {nt : Cx} {L F : List HP} {env : Env} {ty : TypeId}
theorem R_lookup1_yes {t kt et : TypeId} {d d' : TypeDesc} {x i : Operand} {r : Nat} {k v : Value} {f : Value → Option Value} [hm : Und P t (.map kt et)] [hd : Und P kt d] (hx : evO env x = some (.map (some r))) (hi : evO env i = some k)
    (hc : MpC L r d' f) (he : d' = d) (hk : IsKey d k) (hv : f k = some v) : OpR P w0 nt L env (.lookup t x i false) ty v := .mk fun o ho _ a hr w hs => by
  subst he
  obtain ⟨es, clock, h1, h2, h4⟩ := hc.h _ hs.own
  obtain ⟨j, h5, _⟩ := (find_of hk h2 h4).2 v hv
  simp [execOp, ho, Instr.lookup, hr.eval hx, hr.eval hi, run_underlying hm.h, MapKept.run_getObj_map h1, MapKept.run_checkKey hd.h hk, MapKept.run_findKey hd.h h5]
theorem R_lookup1_no {t kt et : TypeId} {d d' : TypeDesc} {x i : Operand} {r : Nat} {k z : Value} {f : Value → Option Value} [hm : Und P t (.map kt et)] [hd : Und P kt d] [hz : ZeroC P et z] (hx : evO env x = some (.map (some r))) (hi : evO env i = some k)
    (hc : MpC L r d' f) (he : d' = d) (hk : IsKey d k) (hv : f k = none) : OpR P w0 nt L env (.lookup t x i false) ty z := .mk fun o ho _ a hr w hs => by
  subst he
  obtain ⟨es, clock, h1, h2, h4⟩ := hc.h _ hs.own
  have h5 := (find_of hk h2 h4).1 hv
  simp [execOp, ho, Instr.lookup, hr.eval hx, hr.eval hi, run_underlying hm.h, MapKept.run_getObj_map h1, MapKept.run_checkKey hd.h hk, MapKept.run_findKey hd.h h5, hz.h]
theorem R_pred64 {t t' : TypeId} {x y : Operand} {k : Nat} (hx : evO env x = some (.int .i64 ((k + 1 : Nat) : Int))) (hy : evO env y = some (.int .i64 1)) (h : k ≤ 9223372036854775806) : OpR P w0 nt L env (.binOp .sub t x y t') ty (.int .i64 (k : Int)) := by
  have := R_sub64 (P := P) (w0 := w0) (nt := nt) (L := L) (env := env) (ty := ty) (t := t) (t' := t') hx hy (by omega)
  rwa [show ((k + 1 : Nat) : Int) - 1 = (k : Int) by omega] at this
end
end Go.SL

/-
  OWN BASE, PART 13: a region in which more than one of the heavy operations may be the next one: 'SWG'.
-/
namespace Go.SL
open Go
section
variable {P : Program} {w0 : World} {nt : Cx} {L Lr : List HP} {env : Env} {Q : Exit → Act → World → Prop} {ops : Array Oper} {listed : Array Bool} {n i : Nat}
variable {dst : Option Tmp} {op : Op} {ty : TypeId} {pos : String} {after : Array Edge}

structure SWG (P : Program) (w0 : World) (nt : Cx) (Lr L : List HP) (env : Env) (ops : Array Oper) (listed : Array Bool) (n : Nat) (Q : Exit → Act → World → Prop) : Prop where
  h : Region.noSelect ops = true → Ent L Lr → ∀ w a, Sat w0 w L → Rel nt env a → wpAnyH P .any ops Q (fun w => Sat w0 w Lr) n listed a w

theorem sw_open {id : Nat} {l : List Oper} [PanicOK Q] (hm : P.follows .mixedOrders = true) (hns : (Region.noSelect l.toArray && noDefer l) = true)
    (h : SWG P w0 nt L L env l.toArray (Array.replicate l.toArray.size false) l.length Q) : SW P w0 nt L env (.region id l.toArray true) Q := .mk fun w a hs hr => by
  simp only [Bool.and_eq_true] at hns
  refine wpIn_region_held (S := fun w => Sat w0 w L) hm hns.2 ?_
  have := h.h hns.1 (Ent.refl L) w.drew a hs.drew hr
  simpa using this
/-- from here on one order is enough -/
theorem swg_order (order : List (Nat × Bool)) (hlen : order.length = n) (hok : hOK ops listed order = true) (h : SWH P w0 nt Lr L env ops listed order Q) : SWG P w0 nt Lr L env ops listed n Q := .mk fun hns he w a hs hr => by
  subst hlen; exact h.h hok hns he w a hs hr
theorem swg_take [hp : PanicOK Q] (i : Nat) {g : Option (Nat × Bool)} (hok : (Region.free .any ops listed i && (Region.ready .any ops listed).contains i) = true) (hi : ops[i]? = some ⟨dst, op, ty, pos, after, g⟩)
    (hg : ∀ a, Rel nt env a → Region.wanted ⟨dst, op, ty, pos, after, g⟩ (yielded ops a.tmps) = true)
    (h : S1 P w0 nt Lr L env op ty dst false (fun env' L' => SWG P w0 nt Lr L' env' ops (listed.setIfInBounds i true) n Q)) : SWG P w0 nt Lr L env ops listed (n + 1) Q := by
  simp only [Bool.and_eq_true] at hok
  cases h with
  | r h hd k =>
    refine .mk fun hns he w a hw hr => ?_
    refine wpAnyH_take hi hns hok.1 hok.2 (fun c a w => hp.h c a _ _ w) (.inl ⟨hg a hr, fun w' hw' => h.h _ rfl rfl a hr w' hw'⟩) (hw.ent he) ?_
    exact k.h hns he w _ hw (hr.put hd _)
  | w hh => cases hh
  | c hh => cases hh

/-- one of those that may be the next -/
structure SWC (P : Program) (w0 : World) (nt : Cx) (Lr L : List HP) (env : Env) (ops : Array Oper) (listed : Array Bool) (n i : Nat) (Q : Exit → Act → World → Prop) : Prop where
  h : Region.noSelect ops = true → Ent L Lr → ∀ w a, Sat w0 w L → Rel nt env a → wpOp P ops Q i (fun a' w' => Sat w0 w' Lr ∧ wpAnyH P .any ops Q (fun w => Sat w0 w Lr) n (listed.setIfInBounds i true) a' w') a w

theorem swg_choice {rs : List Nat} (hr : Region.ready .any ops listed = rs) (hne : rs.isEmpty = false) (h : ∀ i ∈ rs, SWC P w0 nt Lr L env ops listed n i Q) : SWG P w0 nt Lr L env ops listed (n + 1) Q := .mk fun hns he w a hs hrl => by
  refine wpAnyH_all hr (fun h0 => by rw [h0] at hne; cases hne) fun i hi => ?_
  exact (h i hi).h hns he w a hs hrl

theorem swc_op {g : Option (Nat × Bool)} (hi : ops[i]? = some ⟨dst, op, ty, pos, after, g⟩)
    (hg : ∀ a, Rel nt env a → Region.wanted ⟨dst, op, ty, pos, after, g⟩ (yielded ops a.tmps) = true)
    (h : S1 P w0 nt L L env op ty dst true (fun env' L' => Ent L' Lr ∧ SWG P w0 nt Lr L' env' ops (listed.setIfInBounds i true) n Q)) : SWC P w0 nt Lr L env ops listed n i Q := .mk fun hns he w a hw hr => by
  unfold wpOp
  simp only [hi]
  rw [if_pos (hg a hr)]
  refine .inl ?_
  cases h with
  | r h hd k =>
    rw [Oper.wp, h.h _ rfl rfl a hr w hw]
    exact ⟨hw.ent k.1, k.2.h hns k.1 w _ hw (hr.put hd _)⟩
  | w _ h hd k =>
    obtain ⟨v, w', L', h1, h2, h3⟩ := h.h ⟨dst, op, ty, pos, after, g⟩ rfl rfl a hr w hw
    obtain ⟨h4, h5⟩ := k v L' h3
    rcases h1 with h1 | ⟨rfl, h1⟩ <;> rw [Oper.wp, h1] <;> exact ⟨h2.ent h4, h5.h hns h4 w' _ h2 (hr.put hd _)⟩
  | c _ h hd k =>
    obtain ⟨f, args, h1, h2⟩ := h.h ⟨dst, op, ty, pos, after, g⟩ rfl rfl a hr w hw
    rw [Oper.wp, h1]
    refine Calls.mono h2 fun e w' ⟨v, L', he, h3, h4⟩ => ?_
    subst he
    obtain ⟨h5, h6⟩ := k v L' h4
    exact ⟨h3.ent h5, h6.h hns h5 w' _ h3 (hr.put hd v)⟩

theorem swg_ent {L' : List HP} (e : Ent L L') (h2 : Ent L' Lr) (h : SWG P w0 nt Lr L' env ops listed n Q) : SWG P w0 nt Lr L env ops listed n Q := .mk fun hns _ w a hw hr => h.h hns h2 w a (hw.ent e) hr
theorem swg_sub {E : Env} (e : subE E env) (h : SWG P w0 nt Lr L E ops listed n Q) : SWG P w0 nt Lr L env ops listed n Q := .mk fun hns he w a hw hr => h.h hns he w a hw (hr.sub e)
theorem swg_listed {listed' : Array Bool} (e : listed = listed') (h : SWG P w0 nt Lr L env ops listed' n Q) : SWG P w0 nt Lr L env ops listed n Q := e ▸ h

theorem swc_alloc {t : TypeId} {v : Value} {cs : Array Value} {d : Nat} (hi : ops[i]? = some ⟨some d, .alloc t, ty, pos, after, none⟩) [hz : ZeroC P t v] (hc : v.cells = cs) (hd : dstOk nt (some d) = true) (he : Ent L Lr)
    (k : ∀ b, SWG P w0 nt Lr (pt b (.cells cs t) :: L) ((d, .pointer (some ⟨b, 0, none⟩)) :: env) ops (listed.setIfInBounds i true) n Q) : SWC P w0 nt Lr L env ops listed n i Q :=
  swc_op hi (fun _ _ => wanted_none) (.w rfl (W_alloc hc) hd fun _ _ ⟨b, e1, e2⟩ => by
    subst e1; subst e2; exact ⟨Ent.trans (Ent.drop (Ent.refl _)) he, k b⟩)

def rdy (ops : Array Oper) (listed : Array Bool) (l : List Nat) : Bool := Region.ready .any ops listed == l
def chk3 (ops : Array Oper) (listed : Array Bool) (i j k : Nat) : Bool :=
  rdy ops listed [i, j, k] && rdy ops (listed.setIfInBounds i true) [j, k] && rdy ops (listed.setIfInBounds j true) [i, k] && rdy ops (listed.setIfInBounds k true) [i, j] &&
  rdy ops ((listed.setIfInBounds i true).setIfInBounds j true) [k] && rdy ops ((listed.setIfInBounds i true).setIfInBounds k true) [j] && rdy ops ((listed.setIfInBounds j true).setIfInBounds k true) [i] &&
  !(Nat.beq i j) && !(Nat.beq i k) && !(Nat.beq j k)

theorem rdy_is {listed : Array Bool} {l : List Nat} (h : rdy ops listed l = true) : Region.ready .any ops listed = l := by simpa [rdy] using h

/-- three new blocks, in whatever order -/
theorem swg_alloc3 {t1 t2 t3 ty1 ty2 ty3 : TypeId} {v1 v2 v3 : Value} {c1 c2 c3 : Array Value} {d1 d2 d3 : Nat} {p1 p2 p3 : String} {a1 a2 a3 : Array Edge} (i1 i2 i3 : Nat)
    (h1 : ops[i1]? = some ⟨some d1, .alloc t1, ty1, p1, a1, none⟩) (h2 : ops[i2]? = some ⟨some d2, .alloc t2, ty2, p2, a2, none⟩) (h3 : ops[i3]? = some ⟨some d3, .alloc t3, ty3, p3, a3, none⟩)
    [ZeroC P t1 v1] [ZeroC P t2 v2] [ZeroC P t3 v3] (e1 : v1.cells = c1) (e2 : v2.cells = c2) (e3 : v3.cells = c3)
    (hd : (dstOk nt (some d1) && dstOk nt (some d2) && dstOk nt (some d3) && !(Nat.beq d1 d2) && !(Nat.beq d1 d3) && !(Nat.beq d2 d3)) = true) (hc : chk3 ops listed i1 i2 i3 = true) (he : Ent L Lr)
    (k : ∀ b1 b2 b3, SWG P w0 nt Lr (pt b1 (.cells c1 t1) :: pt b2 (.cells c2 t2) :: pt b3 (.cells c3 t3) :: L) ((d1, .pointer (some ⟨b1, 0, none⟩)) :: (d2, .pointer (some ⟨b2, 0, none⟩)) :: (d3, .pointer (some ⟨b3, 0, none⟩)) :: env) ops
      (((listed.setIfInBounds i1 true).setIfInBounds i2 true).setIfInBounds i3 true) n Q) : SWG P w0 nt Lr L env ops listed (n + 3) Q := by
  simp only [chk3, Bool.and_eq_true, Bool.not_eq_true'] at hc hd
  obtain ⟨⟨⟨⟨⟨⟨⟨⟨⟨r0, r1⟩, r2⟩, r3⟩, r12⟩, r13⟩, r23⟩, n12⟩, n13⟩, n23⟩ := hc
  obtain ⟨⟨⟨⟨⟨x1, x2⟩, x3⟩, m12⟩, m13⟩, m23⟩ := hd
  have hne12 := ne_of_nbeq n12
  have hne13 := ne_of_nbeq n13
  have hne23 := ne_of_nbeq n23
  have y12 := ne_of_nbeq m12
  have y13 := ne_of_nbeq m13
  have y23 := ne_of_nbeq m23
  have C : ∀ (l : Array Bool) {i j : Nat}, i ≠ j → (l.setIfInBounds i true).setIfInBounds j true = (l.setIfInBounds j true).setIfInBounds i true := fun l i j h => Array.setIfInBounds_comm _ _ h
  have r12x := r12; rw [C _ hne12] at r12x
  have r13x := r13; rw [C _ hne13] at r13x
  have r23x := r23; rw [C _ hne23] at r23x
  have D : ∀ {x : HP} {M : List HP}, Ent M Lr → Ent (x :: M) Lr := fun h => Ent.trans (Ent.drop (Ent.refl _)) h
  refine swg_choice (rdy_is r0) rfl ?_
  intro i hi
  simp only [List.mem_cons, List.not_mem_nil, or_false] at hi
  rcases hi with rfl | rfl | rfl
  · refine swc_alloc h1 e1 x1 he fun b1 => swg_choice (rdy_is r1) rfl ?_
    intro j hj
    simp only [List.mem_cons, List.not_mem_nil, or_false] at hj
    rcases hj with rfl | rfl
    · refine swc_alloc h2 e2 x2 (D he) fun b2 => swg_choice (rdy_is r12) rfl ?_
      intro l hl
      have hl' := List.mem_singleton.1 hl
      subst hl'
      refine swc_alloc h3 e3 x3 (D (D he)) fun b3 => ?_
      exact swg_ent (by (repeat (first | exact Ent.refl _ | exact Ent.nil | (apply Ent.pick; focus ((repeat (first | exact Rem.here | apply Rem.there)); done)) | apply Ent.drop))) (D (D (D he))) (swg_sub (fun t v hv => by simp only [Env.get, Nat.beq_eq] at hv ⊢; clear k h1 h2 h3 r0 r1 r2 r3 r12 r13 r23 r12x r13x r23x C D; grind) (swg_listed (by first | rfl | grind) (k b1 b2 b3)))
    · refine swc_alloc h3 e3 x3 (D he) fun b3 => swg_choice (rdy_is r13) rfl ?_
      intro l hl
      have hl' := List.mem_singleton.1 hl
      subst hl'
      refine swc_alloc h2 e2 x2 (D (D he)) fun b2 => ?_
      exact swg_ent (by (repeat (first | exact Ent.refl _ | exact Ent.nil | (apply Ent.pick; focus ((repeat (first | exact Rem.here | apply Rem.there)); done)) | apply Ent.drop))) (D (D (D he))) (swg_sub (fun t v hv => by simp only [Env.get, Nat.beq_eq] at hv ⊢; clear k h1 h2 h3 r0 r1 r2 r3 r12 r13 r23 r12x r13x r23x C D; grind) (swg_listed (by first | rfl | grind) (k b1 b2 b3)))
  · refine swc_alloc h2 e2 x2 he fun b2 => swg_choice (rdy_is r2) rfl ?_
    intro j hj
    simp only [List.mem_cons, List.not_mem_nil, or_false] at hj
    rcases hj with rfl | rfl
    · refine swc_alloc h1 e1 x1 (D he) fun b1 => swg_choice (rdy_is r12x) rfl ?_
      intro l hl
      have hl' := List.mem_singleton.1 hl
      subst hl'
      refine swc_alloc h3 e3 x3 (D (D he)) fun b3 => ?_
      exact swg_ent (by (repeat (first | exact Ent.refl _ | exact Ent.nil | (apply Ent.pick; focus ((repeat (first | exact Rem.here | apply Rem.there)); done)) | apply Ent.drop))) (D (D (D he))) (swg_sub (fun t v hv => by simp only [Env.get, Nat.beq_eq] at hv ⊢; clear k h1 h2 h3 r0 r1 r2 r3 r12 r13 r23 r12x r13x r23x C D; grind) (swg_listed (by first | rfl | grind) (k b1 b2 b3)))
    · refine swc_alloc h3 e3 x3 (D he) fun b3 => swg_choice (rdy_is r23) rfl ?_
      intro l hl
      have hl' := List.mem_singleton.1 hl
      subst hl'
      refine swc_alloc h1 e1 x1 (D (D he)) fun b1 => ?_
      exact swg_ent (by (repeat (first | exact Ent.refl _ | exact Ent.nil | (apply Ent.pick; focus ((repeat (first | exact Rem.here | apply Rem.there)); done)) | apply Ent.drop))) (D (D (D he))) (swg_sub (fun t v hv => by simp only [Env.get, Nat.beq_eq] at hv ⊢; clear k h1 h2 h3 r0 r1 r2 r3 r12 r13 r23 r12x r13x r23x C D; grind) (swg_listed (by first | rfl | grind) (k b1 b2 b3)))
  · refine swc_alloc h3 e3 x3 he fun b3 => swg_choice (rdy_is r3) rfl ?_
    intro j hj
    simp only [List.mem_cons, List.not_mem_nil, or_false] at hj
    rcases hj with rfl | rfl
    · refine swc_alloc h1 e1 x1 (D he) fun b1 => swg_choice (rdy_is r13x) rfl ?_
      intro l hl
      have hl' := List.mem_singleton.1 hl
      subst hl'
      refine swc_alloc h2 e2 x2 (D (D he)) fun b2 => ?_
      exact swg_ent (by (repeat (first | exact Ent.refl _ | exact Ent.nil | (apply Ent.pick; focus ((repeat (first | exact Rem.here | apply Rem.there)); done)) | apply Ent.drop))) (D (D (D he))) (swg_sub (fun t v hv => by simp only [Env.get, Nat.beq_eq] at hv ⊢; clear k h1 h2 h3 r0 r1 r2 r3 r12 r13 r23 r12x r13x r23x C D; grind) (swg_listed (by first | rfl | grind) (k b1 b2 b3)))
    · refine swc_alloc h2 e2 x2 (D he) fun b2 => swg_choice (rdy_is r23x) rfl ?_
      intro l hl
      have hl' := List.mem_singleton.1 hl
      subst hl'
      refine swc_alloc h1 e1 x1 (D (D he)) fun b1 => ?_
      exact swg_ent (by (repeat (first | exact Ent.refl _ | exact Ent.nil | (apply Ent.pick; focus ((repeat (first | exact Rem.here | apply Rem.there)); done)) | apply Ent.drop))) (D (D (D he))) (swg_sub (fun t v hv => by simp only [Env.get, Nat.beq_eq] at hv ⊢; clear k h1 h2 h3 r0 r1 r2 r3 r12 r13 r23 r12x r13x r23x C D; grind) (swg_listed (by first | rfl | grind) (k b1 b2 b3)))

theorem R_neg64 {t : TypeId} {x : Operand} {a : Int} (hx : evO env x = some (.int .i64 a)) (h : -9223372036854775808 < a ∧ a ≤ 9223372036854775807) : OpR P w0 nt L env (.unOp .neg t x) ty (.int .i64 (-a)) := by
  have e : IntKind.i64.wrap (-a) = -a := wrap_i64_of (by omega)
  have := R_neg (P := P) (w0 := w0) (nt := nt) (L := L) (env := env) (ty := ty) (t := t) hx
  rwa [e] at this
/-- a struct that stands within a block that is written out -/
theorem L_load_part {t : TypeId} {x : Operand} {b off n : Nat} {c : Array Value} {l : List Value} {T : TypeId} {fr : Nat × Nat} [AggC P t true] [SizeC P t n] (hx : evO env x = some (.pointer (some ⟨b, off, none⟩)))
    (hr : ReadC L b (.cells c T fr)) (hle : Nat.ble (off + n) c.toList.length = true) (hv : (c.toList.drop off).take n = l) : OpR P w0 nt L env (.load t x) ty (.agg l.toArray) := by
  refine R_load_agg hx hr.h (by simpa using hle) ?_
  rw [← hv]; apply Array.ext'; simp
end
end Go.SL

/-
  OWN BASE, PART 14: division, bits, shifts, conversions into unsigned kinds, max.
-/
namespace Go.SL
open Go

def bAnd (k : IntKind) (a b : Int) : Int := k.wrap (BitVec.ofInt k.bits a &&& BitVec.ofInt k.bits b).toNat
def bOr (k : IntKind) (a b : Int) : Int := k.wrap (BitVec.ofInt k.bits a ||| BitVec.ofInt k.bits b).toNat
def bXor (k : IntKind) (a b : Int) : Int := k.wrap (BitVec.ofInt k.bits a ^^^ BitVec.ofInt k.bits b).toNat
def bShr (k : IntKind) (a n : Int) : Int := a.fdiv (2 ^ (min n.toNat k.bits))
def bShl (k : IntKind) (a n : Int) : Int := k.wrap (a * 2 ^ (min n.toNat k.bits))

section
variable {P : Program} {w0 : World} {nt : Cx} {L F : List HP} {env : Env} {ty t t' : TypeId} {x y : Operand} {k k' : IntKind} {a b : Int}

theorem R_quo64 (hx : evO env x = some (.int .i64 a)) (hy : evO env y = some (.int .i64 b)) (h : 0 ≤ a ∧ a ≤ 9223372036854775807 ∧ 0 < b) : OpR P w0 nt L env (.binOp .quo t x y t') ty (.int .i64 (a / b)) := .mk fun o ho _ s hr w _ => by
  have h1 : b ≠ 0 := by omega
  have h2 : a.tdiv b = a / b := Int.tdiv_eq_ediv_of_nonneg h.1
  have h3 : 0 ≤ a / b := Int.ediv_nonneg h.1 (by omega)
  have h4 : a / b ≤ a := Int.ediv_le_self b h.1
  have h5 : IntKind.i64.wrap (a / b) = a / b := wrap_i64_of (by omega)
  simp [execOp, ho, hr.eval hx, hr.eval hy, eqGuard_quo, eqGuard_rem, Go.binOp, Op.intDiv, h1, h2, h5]
theorem R_rem64 (hx : evO env x = some (.int .i64 a)) (hy : evO env y = some (.int .i64 b)) (h : 0 ≤ a ∧ 0 < b) : OpR P w0 nt L env (.binOp .rem t x y t') ty (.int .i64 (a % b)) := .mk fun o ho _ s hr w _ => by
  have h1 : b ≠ 0 := by omega
  have h2 : a.tmod b = a % b := Int.tmod_eq_emod_of_nonneg h.1
  simp [execOp, ho, hr.eval hx, hr.eval hy, eqGuard_quo, eqGuard_rem, Go.binOp, Op.intDiv, h1, h2]
theorem R_rem (hx : evO env x = some (.int k a)) (hy : evO env y = some (.int k b)) (h : 0 ≤ a ∧ 0 < b) : OpR P w0 nt L env (.binOp .rem t x y t') ty (.int k (a % b)) := .mk fun o ho _ s hr w _ => by
  have h1 : b ≠ 0 := by omega
  have h2 : a.tmod b = a % b := Int.tmod_eq_emod_of_nonneg h.1
  simp [execOp, ho, hr.eval hx, hr.eval hy, eqGuard_quo, eqGuard_rem, Go.binOp, Op.intDiv, h1, h2]
theorem R_and (hx : evO env x = some (.int k a)) (hy : evO env y = some (.int k b)) : OpR P w0 nt L env (.binOp .and t x y t') ty (.int k (bAnd k a b)) := .mk fun o ho _ s hr w _ => by
  simp [execOp, ho, hr.eval hx, hr.eval hy, eqGuard_and, eqGuard_or, eqGuard_xor, Go.binOp, Op.intBits, bAnd]
theorem R_or (hx : evO env x = some (.int k a)) (hy : evO env y = some (.int k b)) : OpR P w0 nt L env (.binOp .or t x y t') ty (.int k (bOr k a b)) := .mk fun o ho _ s hr w _ => by
  simp [execOp, ho, hr.eval hx, hr.eval hy, eqGuard_and, eqGuard_or, eqGuard_xor, Go.binOp, Op.intBits, bOr]
theorem R_xor (hx : evO env x = some (.int k a)) (hy : evO env y = some (.int k b)) : OpR P w0 nt L env (.binOp .xor t x y t') ty (.int k (bXor k a b)) := .mk fun o ho _ s hr w _ => by
  simp [execOp, ho, hr.eval hx, hr.eval hy, eqGuard_and, eqGuard_or, eqGuard_xor, Go.binOp, Op.intBits, bXor]
theorem R_shr (hx : evO env x = some (.int k a)) (hy : evO env y = some (.int k' b)) (h : 0 ≤ b) : OpR P w0 nt L env (.binOp .shr t x y t') ty (.int k (bShr k a b)) := .mk fun o ho _ s hr w _ => by
  have : ¬ b < 0 := by omega
  simp [execOp, ho, hr.eval hx, hr.eval hy, eqGuard_shl, eqGuard_shr, Go.binOp, Op.shift, bShr, this]
theorem R_shl (hx : evO env x = some (.int k a)) (hy : evO env y = some (.int k' b)) (h : 0 ≤ b) : OpR P w0 nt L env (.binOp .shl t x y t') ty (.int k (bShl k a b)) := .mk fun o ho _ s hr w _ => by
  have : ¬ b < 0 := by omega
  simp [execOp, ho, hr.eval hx, hr.eval hy, eqGuard_shl, eqGuard_shr, Go.binOp, Op.shift, bShl, this]
theorem R_convk {z : Int} [hs : NotIface P t] [hd : Und P t' (.int k')] (hx : evO env x = some (.int k a)) (h : k'.wrap a = z) : OpR P w0 nt L env (.convert t t' x) ty (.int k' z) := by
  subst h; exact R_conv hx
theorem R_max (hx : evO env x = some (.int k a)) (hy : evO env y = some (.int k b)) : OpR P w0 nt L env (.call ⟨.builtin .max, #[x, y], #[t, t']⟩) ty (.int k (max a b)) := .mk fun o ho _ s hr w _ => by
  simp only [execOp, ho, resolve, invoke, builtin, Builtin.max_, List.map_toArray, List.map_cons, List.map_nil, hr.eval hx, hr.eval hy, List.foldlM_cons, List.foldlM_nil, Builtin.max2, Sem.run_bind, Sem.run_pure, Result.andThen_ok]
  have : (if b > a then b else a) = max a b := by split <;> omega
  rw [this]
end
theorem wrap_u64_of {n : Int} (h : 0 ≤ n ∧ n ≤ 18446744073709551615) : IntKind.u64.wrap n = n := by
  simp [IntKind.wrap, IntKind.bits, IntKind.signed]; omega
theorem wrap_u32_bd (n : Int) : 0 ≤ IntKind.u32.wrap n ∧ IntKind.u32.wrap n ≤ 4294967295 := by
  simp [IntKind.wrap, IntKind.bits, IntKind.signed]; omega
theorem wrap_u8_bd (n : Int) : 0 ≤ IntKind.u8.wrap n ∧ IntKind.u8.wrap n ≤ 255 := by
  simp [IntKind.wrap, IntKind.bits, IntKind.signed]; omega
theorem wrap_u64_bd (n : Int) : 0 ≤ IntKind.u64.wrap n ∧ IntKind.u64.wrap n ≤ 18446744073709551615 := by
  simp [IntKind.wrap, IntKind.bits, IntKind.signed]; omega
end Go.SL

/-
  OWN BASE, PART 15: new rows, copies into them, stores of one cell, bytes as texts.
-/
namespace Go.SL
open Go

def bNot (k : IntKind) (a : Int) : Int := bXor k (if k.signed then -1 else k.max) a
def u8c (z : Int) : Array Value := #[.int .u8 z]
instance lenOK_rep {α : Type} {x : α} {n : Nat} : Fact' ((List.replicate n x).length = n) := ⟨List.length_replicate ..⟩

section
variable {P : Program} {w0 : World} {nt : Cx} {L F : List HP} {env : Env} {ty : TypeId}

theorem R_notb {t : TypeId} {x : Operand} {k : IntKind} {a : Int} (hx : evO env x = some (.int k a)) : OpR P w0 nt L env (.unOp .xor t x) ty (.int k (bNot k a)) := .mk fun o ho _ s hr w _ => by
  simp [execOp, ho, hr.eval hx, Op.unary, Op.intBits, bNot, bXor]

theorem madeCells_is (z : Array Value) (n k : Nat) (hz : z.size = k) (hk : 0 < k) : (madeCells z (n * k)).toList = flat (List.replicate n z) := by
  apply List.ext_getElem?
  intro i
  have hl : (flat (List.replicate n z)).length = n * k := by
    rw [flat_length (k := k) (fun x hx => by rw [(List.mem_replicate.1 hx).2]; exact hz)]; simp
  by_cases hi : i < n * k
  · have hq : i / k < n := by rwa [Nat.div_lt_iff_lt_mul hk]
    have h6 := flat_el (k := k) (els := List.replicate n z) (fun x hx => by rw [(List.mem_replicate.1 hx).2]; exact hz) (i / k) (by simpa using hq)
    have h8 := congrArg (·[i % k]?) h6
    have hmod : i % k < k := Nat.mod_lt _ hk
    simp only [List.getElem?_take, hmod, if_true, List.getElem?_drop] at h8
    rw [show i / k * k + i % k = i by rw [Nat.mul_comm]; exact Nat.div_add_mod i k] at h8
    rw [h8]
    simp [madeCells, hi, hz, hq, List.getD]
    have : i % k < z.size := by omega
    simp [this]
  · rw [List.getElem?_eq_none (by simp [madeCells]; omega), List.getElem?_eq_none (by rw [hl]; omega)]

theorem W_makeSlice {t e k bytes : Nat} {x y : Operand} {kl kc : IntKind} {n c : Int} {n' c' : Nat} {z : Value} {zc : Array Value} [hu : Und P t (.slice e)] [he : ElemC P e k bytes] [hz : ZeroC P e z] (hx : evO env x = some (.int kl n)) (hy : evO env y = some (.int kc c))
    (hzc : z.cells = zc) (hn' : n.toNat = n') (hc' : c.toNat = c') (h0 : 0 ≤ n ∧ n ≤ c) (hb : bytes * c ≤ 140737488355328 ∧ c ≤ 140737488355328) :
    OpW P w0 nt L env (.makeSlice t x y) ty (fun u L' => ∃ b, u = .slice (some ⟨b, 0, none⟩) n' c' ∧ SlOK (some ⟨b, 0, none⟩) n' c' ∧ L' = vec e k (List.replicate n' zc) (.slice (some ⟨b, 0, none⟩) n' c') :: L) := .mk fun o ho hty a ha w hs => by
  subst hn' hc'
  obtain ⟨i, z', hi, rfl, rfl, hz', hzs, hk⟩ := he.h
  obtain rfl : z' = z := by
    have := hz.h w
    simpa [zeroValue, typeInfo, hi, hz'] using this
  subst hzc
  have hr := run_make (P := P) w t e i z' hu.h hi hz' kl kc n c h0.1 h0.2 (by omega) (by omega)
  refine ⟨_, _, _, .inl ?_, (hs.alloc (.cells (madeCells z'.cells (c.toNat * i.size)) e)).ent (Ent.vec_close ?_ ?_ ?_ ?_ ?_ (size_madeCells _ _) ?_), w.heap.size, rfl, ⟨by omega, by omega, fun _ => ⟨_, _, rfl⟩⟩, rfl⟩
  · simp [execOp, ho, ha.eval hx, ha.eval hy, hr]
  · intro x hx; rw [(List.mem_replicate.1 hx).2]; exact hzs
  · simp; omega
  · simp
  · omega
  · unfold maxLen; omega
  · rw [madeCells_is _ _ _ hzs hk]
    have h1 : c.toNat = n.toNat + (c.toNat - n.toNat) := by omega
    rw [h1, ← List.replicate_append_replicate, flat_append]
    have h2 : (flat (List.replicate n.toNat z'.cells)).length = n.toNat * i.size := by
      rw [flat_length (k := i.size) (fun x hx => by rw [(List.mem_replicate.1 hx).2]; exact hzs)]; simp
    rw [← h2]; exact List.take_left

/-- one element of one cell -/
theorem W_store_el1 {t : TypeId} {x y : Operand} {e g off i n cap : Nat} {els : List (Array Value)} {v : Value} [SizeC P t 1] (hx : evO env x = some (.pointer (some ⟨g, off + i * 1, none⟩)))
    (hy : evO env y = some v) (hr : Rem (vec e 1 els (.slice (some ⟨g, off, none⟩) n cap)) L F) (h1 : v.oneCell' = true) (hi : i < els.length) :
    OpW P w0 nt L env (.store t x y) ty (fun u L2 => u = undef ∧ L2 = vec e 1 (els.set i #[v]) (.slice (some ⟨g, off, none⟩) n cap) :: F) := .mk fun o ho hty a ha w hs => by
  have hs' := hs.ent (Ent.pick hr (Ent.refl F))
  obtain ⟨hke, _, _⟩ := vec_open hs'.own
  have hsz : (els.getD i #[]).size = 1 := by
    have h0 : els.getD i #[] = els[i] := by simp [List.getD, hi]
    rw [h0]; exact hke _ (List.getElem_mem hi)
  obtain ⟨u, hu⟩ : ∃ u, els.getD i #[] = #[u] := by
    generalize els.getD i #[] = c at hsz
    obtain ⟨l⟩ := c
    match l, hsz with
    | [u], _ => exact ⟨u, rfl⟩
  exact (W_store_elf (P := P) (w0 := w0) (nt := nt) (ty := ty) (t := t) (f := 0) (hx := by simpa using hx) hy hr h1 hi hu rfl (by rfl)).h o ho hty a ha w hs

/-- a copy into a row of the call's own, of one cell a piece, from its beginning -/
theorem W_copy1 {dT sT e bytes g n cap m c : Nat} {x y : Operand} {els news : List (Array Value)} {b off : Nat} [hu : Und P dT (.slice e)] [he : ElemC P e 1 bytes] (hx : evO env x = some (.slice (some ⟨g, 0, none⟩) n cap)) (hy : evO env y = some (.slice (some ⟨b, off, none⟩) m c))
    (hr : Rem (vec e 1 els (.slice (some ⟨g, 0, none⟩) n cap)) L F) (hb : SlC F (some ⟨b, off, none⟩) 1 m c news) (hk : ∀ x ∈ news, x.size = 1) (h1 : ∀ x ∈ news, ∀ u ∈ x.toList, u.oneCell' = true) (hm : m ≤ n) :
    OpW P w0 nt L env (.call ⟨.builtin .copy, #[x, y], #[dT, sT]⟩) ty (fun u L' => u = .int .i64 m ∧ L' = vec e 1 (news ++ els.drop m) (.slice (some ⟨g, 0, none⟩) n cap) :: F) := .mk fun o ho hty a ha w hs => by
  have hs' := hs.ent hr.ent
  obtain ⟨hke, hbe, hp⟩ := vec_open hs'.own
  rcases hp with ⟨h, _⟩ | ⟨g', cap', cur, h, hnc, hcm, hsz, htk, H⟩
  · cases h
  simp only [Value.slice.injEq, Option.some.injEq, Addr.mk.injEq, and_true] at h
  obtain ⟨rfl, rfl, rfl⟩ := h
  have hs2 : Sat w0 w (pt g (.cells cur e) :: F) := ⟨hs'.os, hs'.tape, hs'.output, hs'.size, hs'.drawn, H⟩
  obtain ⟨pp, q, hsp, _, hF⟩ := own_cons.1 hs'.own
  obtain ⟨i, z, hi, hi1, _, _, _, _⟩ := he.h
  have hlen := hb.len
  have hfl : (flat news).length = m := by rw [flat_length hk, hlen]; omega
  have hfe : (flat els).length = els.length := by rw [flat_length hke]; omega
  have hcur : cur.size = cap := by omega
  have hcl := run_copy_row (P := P) w dT sT o.type e g 0 els.length cap ⟨b, off, none⟩ m c cur e (flat news) hu.h (by simp [hi, hi1]) (hs2.read Reads.here)
    (by rw [hfl]; exact (Nat.min_eq_left hm).symm) (fun j v hj => by
      have hj' : j < m := by rw [← hfl]; exact (List.getElem?_eq_some_iff.1 hj).1
      obtain ⟨b', off', ca, T, fr, e1, e2, e3, e4⟩ := hb.at_ q hF j hj'
      simp only [Option.some.injEq, Addr.mk.injEq, and_true] at e1
      obtain ⟨rfl, rfl⟩ := e1
      have e5 : w.heap[b]? = some (.cells ca T fr) := by have := hsp b; simp_all
      rw [addr_add, cell?_of e5]
      have h6 := flat_el hk j (by omega)
      rw [← e4] at h6
      have h8 := congrArg (·[0]?) h6
      simp only [List.getElem?_take, List.getElem?_drop, Array.getElem?_toList, Array.getElem?_extract] at h8
      simp at h8
      rw [hj] at h8
      rw [h8, if_pos (by omega)]) (by omega) (fun v hv => by
      obtain ⟨x, hx, hux⟩ := List.mem_flatMap.1 hv
      exact h1 x hx v hux)
  refine ⟨.int .i64 m, w.setRow g (cur.toList.take 0 ++ flat news ++ cur.toList.drop (0 + (flat news).length)).toArray, _, .inl ?_, (setRow_sat hs2).ent (Ent.vec_close ?_ ?_ ?_ hnc hcm ?_ ?_), rfl, rfl⟩
  · simp only [execOp, ho, resolve, invoke, builtin, Sem.run_bind, Sem.run_pure, Result.andThen_ok, List.map_toArray, List.map_cons, List.map_nil, ha.eval hx, ha.eval hy]
    rw [hcl, hfl]; rfl
  · intro z hz
    rcases List.mem_append.1 hz with hz | hz
    · exact hk z hz
    · exact hke z (List.mem_of_mem_drop hz)
  · rw [List.length_append, List.length_drop]; omega
  · rw [List.length_append, List.length_drop]; omega
  · simp only [List.size_toArray, List.length_append, List.length_take, List.length_drop, Array.length_toList]; omega
  · simp only [List.take_zero, List.nil_append, Nat.zero_add, Nat.mul_one, hfl]
    have h9 : flat (els.drop m) = (flat els).drop m := by
      have := congrArg flat (List.take_append_drop m els)
      rw [flat_append] at this
      have h10 : (flat (els.take m)).length = m := by rw [flat_length (k := 1) (fun x hx => hke x (List.mem_of_mem_take hx)), List.length_take]; omega
      rw [← this]; conv => lhs; rw [← List.drop_left (l₁ := flat (els.take m)) (l₂ := flat (els.drop m)), h10]
    rw [flat_append, h9, ← htk, Nat.mul_one, List.drop_take]
    rw [List.take_append]
    simp only [hfl]
    congr 1
    rw [List.take_of_length_le (by omega)]

theorem R_bytes_string {t t' e : TypeId} {x : Operand} {p : Option Addr} {n c : Nat} {l : List Int} [hu : Und P t (.slice e)] [hd : Und P t' .string] [he : Und P e (.int .u8)] (hx : evO env x = some (.slice p n c)) (hl : SlC L p 1 n c (l.map u8c)) :
    OpR P w0 nt L env (.convert t t' x) ty (.string (strOfNums l)) := .mk fun o ho _ a ha w hw => by
  have hlen : l.length = n := by simpa using hl.len
  have key : (convert t t' (.slice p n c)).run P w = .ok (.string (strOfNums l)) w := by
    rcases p with _ | ⟨b, off, sp⟩
    · have h0 : n = 0 := by
        rcases Nat.eq_zero_or_pos n with h | h
        · exact h
        · obtain ⟨b, off, h2⟩ := hl.ptr h; cases h2
      obtain rfl : l = [] := List.eq_nil_of_length_eq_zero (by omega)
      exact run_convert_bytes_nil w t e hu.h he.h n c t' hd.h
    · by_cases h0 : n = 0
      · subst h0
        obtain rfl : l = [] := List.eq_nil_of_length_eq_zero hlen
        rw [run_convert_bytes_string w t t' e _ 0 c hu.h he.h hd.h, run_bytesToString w _ 0 c [] (by simp [loadCells, loadCellsFrom])]
        rfl
      · obtain ⟨b', off', h2⟩ := hl.ptr (by omega)
        cases h2
        refine run_convert_bytes_arg w t e hu.h he.h b off n c l hlen (fun i hi => ?_) t' hd.h
        obtain ⟨b', off', ca, T, fr, e1, e2, e3, e4⟩ := hl.at_ _ hw.own i hi
        simp only [Option.some.injEq, Addr.mk.injEq, and_true] at e1
        obtain ⟨rfl, rfl⟩ := e1
        rw [cell?_of e2]
        have h6 := congrArg (·[0]?) e4
        simp [u8c, List.getD, show i < l.length by omega] at h6
        rw [Array.getElem?_extract, if_pos (by omega)] at h6
        simpa [List.getD, show i < l.length by omega] using h6
  simp only [execOp, ho, ha.eval hx, key, Sem.run_bind, Result.andThen_ok, Sem.run_pure]
end
end Go.SL

/-
  OWN BASE, PART 16: slices behind an element.
-/
namespace Go.SL
open Go
theorem SlC.drop {L : List HP} {b off k n cap : Nat} {els : List (Array Value)} (h : SlC L (some ⟨b, off, none⟩) k n cap els) (m : Nat) (hm : m ≤ n) : SlC L (some ⟨b, off + m * k, none⟩) k (n - m) (cap - m) (els.drop m) := by
  have h1 := h.len; have h2 := h.le; have h3 := h.bd
  refine ⟨by simp; omega, by omega, by omega, fun _ => ⟨_, _, rfl⟩, fun g hg i hi => ?_⟩
  obtain ⟨b', off', c, T, fr, e1, e2, e3, e4⟩ := h.at_ g hg (m + i) (by omega)
  simp only [Option.some.injEq, Addr.mk.injEq, and_true] at e1
  obtain ⟨rfl, rfl⟩ := e1
  rw [Nat.add_mul, ← Nat.add_assoc] at e3 e4
  refine ⟨b, off + m * k, c, T, fr, rfl, e2, e3, ?_⟩
  rw [e4]; simp [List.getD_eq_getElem?_getD]
theorem SlC.sub {L : List HP} {b off k n cap : Nat} {els : List (Array Value)} (h : SlC L (some ⟨b, off, none⟩) k n cap els) (m n' : Nat) (hm : m ≤ n') (hn : n' ≤ n) : SlC L (some ⟨b, off + m * k, none⟩) k (n' - m) (cap - m) ((els.take n').drop m) :=
  (h.take n' hn).drop m hm
end Go.SL

/-
  OWN BASE, PART 17: arrays within rows: slices of them, loads, copies; clear; whole stores whose size is told.
-/
namespace Go.SL
open Go

theorem flat_setSeg {k : Nat} : ∀ {els : List (Array Value)} (i : Nat) (x : Array Value), (∀ y ∈ els, y.size = k) → i < els.length → flat (els.set i x) = (flat els).take (i * k) ++ x.toList ++ (flat els).drop ((i + 1) * k)
  | [], i, x, _, h => by simp at h
  | e :: r, 0, x, hk, h => by
    have h1 := hk e (by simp)
    simp only [flat, List.set_cons_zero, List.flatMap_cons, Nat.zero_mul, List.take_zero, List.nil_append, Nat.zero_add, Nat.one_mul]
    rw [← h1, ← Array.length_toList, List.drop_left]
  | e :: r, i + 1, x, hk, h => by
    have h1 := hk e (by simp)
    have h2 := flat_setSeg (els := r) i x (fun y hy => hk y (by simp [hy])) (by simpa using h)
    simp only [flat, List.set_cons_succ, List.flatMap_cons] at h2 ⊢
    have e1 : (i + 1) * k = e.toList.length + i * k := by rw [Array.length_toList, h1, Nat.add_mul]; omega
    have e2 : (i + 1 + 1) * k = e.toList.length + (i + 1) * k := by rw [Array.length_toList, h1, Nat.add_mul (i + 1)]; omega
    rw [h2, e2, List.take_append, List.drop_append]
    rw [e1, Nat.add_sub_cancel_left, List.take_of_length_le (by omega : e.toList.length ≤ e.toList.length + i * k)]
    rw [show e.toList.length + (e.toList.length + i * k) - e.toList.length = e.toList.length + i * k by omega, List.drop_of_length_le (by omega : e.toList.length ≤ e.toList.length + (e.toList.length + i * k))]
    simp

section
variable {P : Program} {w0 : World} {nt : Cx} {L F : List HP} {env : Env} {ty : TypeId}

theorem R_sliceArr_h {t e : TypeId} {x y : Operand} {b off n sz : Nat} {k : IntKind} {h : Int} [hu : Und P t (.array n e)] [hz : SizeC P e sz] (hx : evO env x = some (.pointer (some ⟨b, off, none⟩))) (hy : evO env y = some (.int k h)) (hh : 0 ≤ h ∧ h ≤ n) :
    OpR P w0 nt L env (.slice t x none (some y) none) ty (.slice (some ⟨b, off, none⟩) h.toNat n) := .mk fun o ho _ a hr w _ => by
  have h0 : (⟨b, off, none⟩ : Addr).add 0 = ⟨b, off, none⟩ := by rw [addr_add]; rfl
  simp [execOp, ho, hr.eval hx, hr.eval hy, Instr.sliceAt, run_underlying hu.h, Instr.sureAddr, Instr.sliceBounds, Instr.sliceBound, asIntOf, hh.1, hh.2, hz.h, h0]
theorem R_sliceArr {t e : TypeId} {x : Operand} {b off n sz : Nat} [hu : Und P t (.array n e)] [hz : SizeC P e sz] (hx : evO env x = some (.pointer (some ⟨b, off, none⟩))) :
    OpR P w0 nt L env (.slice t x none none none) ty (.slice (some ⟨b, off, none⟩) n n) := .mk fun o ho _ a hr w _ => by
  have h0 : (⟨b, off, none⟩ : Addr).add 0 = ⟨b, off, none⟩ := by rw [addr_add]; rfl
  simp [execOp, ho, hr.eval hx, Instr.sliceAt, run_underlying hu.h, Instr.sureAddr, Instr.sliceBounds, hz.h, h0]
theorem R_s2ap {t e : TypeId} {x : Operand} {p : Option Addr} {n c m : Nat} [hu : Und P t (.array m e)] (hx : evO env x = some (.slice p n c)) (hn : m ≤ n) : OpR P w0 nt L env (.sliceToArrayPointer t x) ty (.pointer p) := .mk fun o ho _ a hr w _ => by
  have : ¬ n < m := by omega
  simp [execOp, ho, hr.eval hx, Instr.arrayAt, run_underlying hu.h, this]

/-- a part of an element -/
theorem L_load_elpart {t : TypeId} {x : Operand} {b off i f k n m cap : Nat} {els : List (Array Value)} {cs : Array Value} {l : List Value} [hg : AggC P t true] [hz : SizeC P t m] (hx : evO env x = some (.pointer (some ⟨b, off + i * k + f, none⟩)))
    (hs : SlC L (some ⟨b, off, none⟩) k n cap els) (hi : i < n) (hv : els.getD i #[] = cs) (hl : (cs.toList.drop f).take m = l) (hk : f + m ≤ k) : OpR P w0 nt L env (.load t x) ty (.agg l.toArray) := .mk fun o ho ht a ha w hw => by
  obtain ⟨b', off', c, T, fr, e1, e2, e3, e4⟩ := hs.at_ _ hw.own i hi
  simp only [Option.some.injEq, Addr.mk.injEq, and_true] at e1
  obtain ⟨rfl, rfl⟩ := e1
  have h5 : c.extract (off + i * k + f) (off + i * k + f + m) = l.toArray := by
    rw [← hl, ← hv, ← e4]
    apply Array.ext'
    simp only [Array.toList_extract, List.extract_eq_take_drop, List.drop_take, List.drop_drop, List.take_take]
    congr 1; omega
  simp [execOp, ho, ha.eval hx, Instr.loadAt, Instr.sureAddr, loadVar, hg.h, hz.h, run_loadCells_of e2 (show off + i * k + f + m ≤ c.size by omega), h5]

/-- clear, of a slice of the call's own -/
theorem W_clearS {t e k bytes n cap : Nat} {x : Operand} {p : Option Addr} {els : List (Array Value)} {z : Value} {zc : Array Value} [hu : Und P t (.slice e)] [he : ElemC P e k bytes] [hz : ZeroC P e z] (hx : evO env x = some (.slice p n cap))
    (hr : Rem (vec e k els (.slice p n cap)) L F) (hzc : z.cells = zc) (h1 : ∀ v ∈ zc.toList, v.oneCell' = true) :
    OpW P w0 nt L env (.call ⟨.builtin .clear, #[x], #[t]⟩) ty (fun u L' => u = .tuple #[] ∧ L' = vec e k (List.replicate n zc) (.slice p n cap) :: F) := .mk fun o ho hty a ha w hs => by
  subst hzc
  have hs' := hs.ent hr.ent
  obtain ⟨hke, hbe, hp⟩ := vec_open hs'.own
  obtain ⟨i, z', hi, rfl, rfl, hz', hzs, hk⟩ := he.h
  obtain rfl : z' = z := by
    have := hz.h w
    simpa [zeroValue, typeInfo, hi, hz'] using this
  rcases hp with ⟨h, rfl⟩ | ⟨g', cap', cur, h, hnc, hcm, hsz, htk, H⟩
  · cases h
    refine ⟨.tuple #[], w, _, .inl ?_, hs', rfl, rfl⟩
    simp only [execOp, ho, resolve, invoke, builtin, Builtin.clear_, Sem.run_bind, Sem.run_pure, Result.andThen_ok, List.map_toArray, List.map_cons, List.map_nil, ha.eval hx]
    simp [run_underlying hu.h]
  simp only [Value.slice.injEq] at h
  obtain ⟨rfl, rfl, rfl⟩ := h
  have hs2 : Sat w0 w (pt g' (.cells cur e) :: F) := ⟨hs'.os, hs'.tape, hs'.output, hs'.size, hs'.drawn, H⟩
  by_cases h0 : els.length = 0
  · refine ⟨.tuple #[], w, _, .inl ?_, hs'.ent ?_, rfl, rfl⟩
    · simp only [execOp, ho, resolve, invoke, builtin, Builtin.clear_, Sem.run_bind, Sem.run_pure, Result.andThen_ok, List.map_toArray, List.map_cons, List.map_nil, ha.eval hx, h0]
      simp [run_underlying hu.h]
    · obtain rfl := List.eq_nil_of_length_eq_zero h0
      exact Ent.refl _
  · have hrep : ∀ x ∈ List.replicate els.length z'.cells, x.size = i.size := fun x hx => by rw [(List.mem_replicate.1 hx).2]; exact hzs
    have hzl : (Builtin.zeroCells z'.cells els.length).toList = flat (List.replicate els.length z'.cells) := by
      have := madeCells_is z'.cells els.length i.size hzs hk
      rw [← hzs] at this; exact this
    have hfl : (flat (List.replicate els.length z'.cells)).length = els.length * i.size := by rw [flat_length hrep]; simp
    have hle : els.length * i.size ≤ cap * i.size := Nat.mul_le_mul_right _ hnc
    have hst := run_storeCells_at P g' 0 e (flat (List.replicate els.length z'.cells)) 0 cur w (hs2.read Reads.here) (by rw [hfl, hsz]; omega) (fun v hv => by
      obtain ⟨x, hx, hvx⟩ := List.mem_flatMap.1 hv
      rw [(List.mem_replicate.1 hx).2] at hvx
      exact h1 v hvx)
    have hzv : (zeroValue e).run P w = .ok z' w := hz.h w
    refine ⟨.tuple #[], w.setRow g' (cur.toList.take (0 + 0) ++ flat (List.replicate els.length z'.cells) ++ cur.toList.drop (0 + 0 + (flat (List.replicate els.length z'.cells)).length)).toArray, _, .inl ?_, (setRow_sat hs2).ent (Ent.vec_close hrep ?_ ?_ hnc hcm ?_ ?_), rfl, rfl⟩
    · simp only [execOp, ho, resolve, invoke, builtin, Builtin.clear_, Sem.run_bind, Sem.run_pure, Result.andThen_ok, List.map_toArray, List.map_cons, List.map_nil, ha.eval hx]
      have hn0 : ∃ q, els.length = q + 1 := ⟨els.length - 1, by omega⟩
      obtain ⟨q, hq⟩ := hn0
      simp only [hq] at hst hzl ⊢
      simp [run_underlying hu.h, hzv, hzl, hst]
    · simpa using hbe
    · simp
    · rw [List.size_toArray, List.length_append, List.length_append, List.length_take, List.length_drop, Array.length_toList, hfl]; omega
    · rw [List.take_zero, List.nil_append, ← hfl]; exact List.take_left

/-- a copy into an element of a row of the call's own, from its beginning -/
theorem W_copyArr {dT sT e e1 bytes g off i k h n cap cp cq b o2 : Nat} {x y : Operand} {els : List (Array Value)} {c : Array Value} {T : TypeId} {fr : Nat × Nat} [hu : Und P dT (.slice e1)] [he : ElemC P e1 1 bytes] (hx : evO env x = some (.slice (some ⟨g, off + i * k, none⟩) h cp)) (hy : evO env y = some (.slice (some ⟨b, o2, none⟩) h cq))
    (hr : Rem (vec e k els (.slice (some ⟨g, off, none⟩) n cap)) L F) (hb : ReadC F b (.cells c T fr)) (hle : o2 + h ≤ c.size) (h1 : ∀ v ∈ c.toList, v.oneCell' = true) (hi : i < els.length) (hhk : h ≤ k) :
    OpW P w0 nt L env (.call ⟨.builtin .copy, #[x, y], #[dT, sT]⟩) ty (fun u L' => u = .int .i64 h ∧ L' = vec e k (els.set i ((c.toList.drop o2).take h ++ (els.getD i #[]).toList.drop h).toArray) (.slice (some ⟨g, off, none⟩) n cap) :: F) := .mk fun o ho hty a ha w hs => by
  have hs' := hs.ent hr.ent
  obtain ⟨hke, hbe, hp⟩ := vec_open hs'.own
  rcases hp with ⟨hv, _⟩ | ⟨g', cap', cur, hv, hnc, hcm, hsz, htk, H⟩
  · cases hv
  simp only [Value.slice.injEq, Option.some.injEq, Addr.mk.injEq, and_true] at hv
  obtain ⟨⟨rfl, rfl⟩, rfl, rfl⟩ := hv
  have hs2 : Sat w0 w (pt g (.cells cur e) :: F) := ⟨hs'.os, hs'.tape, hs'.output, hs'.size, hs'.drawn, H⟩
  obtain ⟨it, z, hit, hi1, _, _, _, _⟩ := he.h
  have hrb := hs'.read (Reads.there hb.h)
  have hcl : ((c.toList.drop o2).take h).length = h := by simp; omega
  have hik : (i + 1) * k ≤ els.length * k := Nat.mul_le_mul_right k hi
  have hik2 : (i + 1) * k = i * k + k := by rw [Nat.add_mul]; omega
  have hck : els.length * k ≤ cap * k := Nat.mul_le_mul_right k hnc
  have hget : els.getD i #[] = els[i] := by simp [List.getD, hi]
  have hcl2 := run_copy_row (P := P) w dT sT o.type e1 g (0 + i * k) h cp ⟨b, o2, none⟩ h cq cur e ((c.toList.drop o2).take h) hu.h (by simp [hit, hi1]) (hs2.read Reads.here)
    (by rw [hcl]; exact (Nat.min_self h).symm) (fun j v hj => by
      rw [addr_add, cell?_of hrb]
      rw [List.getElem?_take] at hj
      split at hj
      · rw [List.getElem?_drop] at hj; simpa using hj
      · cases hj) (by omega) (fun v hv => h1 v (List.mem_of_mem_drop (List.mem_of_mem_take hv)))
  have hset : ∀ x ∈ els.set i ((c.toList.drop o2).take h ++ (els.getD i #[]).toList.drop h).toArray, x.size = k := fun x hx => by
    rcases List.mem_or_eq_of_mem_set hx with hx | rfl
    · exact hke x hx
    · have := hke els[i] (List.getElem_mem hi)
      rw [List.size_toArray, List.length_append, hcl, List.length_drop, hget, Array.length_toList]; omega
  refine ⟨.int .i64 h, w.setRow g _, _, .inl ?_, (setRow_sat (cs := (cur.toList.take (0 + i * k) ++ (c.toList.drop o2).take h ++ cur.toList.drop (0 + i * k + ((c.toList.drop o2).take h).length)).toArray) hs2).ent (Ent.vec_close hset ?_ ?_ hnc hcm ?_ ?_), rfl, rfl⟩
  · simp only [execOp, ho, resolve, invoke, builtin, Sem.run_bind, Sem.run_pure, Result.andThen_ok, List.map_toArray, List.map_cons, List.map_nil, ha.eval hx, ha.eval hy]
    rw [hcl2]; simp only [Result.andThen_ok, hcl]; rfl
  · rw [List.length_set]; exact hbe
  · rw [List.length_set]
  · rw [List.size_toArray, List.length_append, List.length_append, List.length_take, List.length_drop, Array.length_toList, hcl]; omega
  · rw [flat_setSeg i _ hke hi, List.toList_toArray, hcl, Nat.zero_add]
    have e1 : (els.getD i #[]).toList = ((flat els).drop (i * k)).take k := (flat_el hke i hi).symm
    have hfl := flat_length hke
    have e2 : (flat els).take (i * k) = cur.toList.take (i * k) := by rw [← htk, List.take_take]; congr 1; omega
    have e3 : ∀ q, q ≤ els.length * k → (flat els).drop q = (cur.toList.drop q).take (els.length * k - q) := fun q hq => by rw [← htk, List.drop_take]
    rw [e1, e2, e3 _ hik, e3 (i * k) (by omega)]
    rw [List.take_append, List.take_append]
    simp only [List.length_take, List.length_drop, List.length_append, Array.length_toList, hsz]
    have g1 : min (i * k) (cap * k) = i * k := by omega
    have g2 : min h (c.toList.length - o2) = h := by simp; omega
    rw [g1]
    have g3 : min h (c.size - o2) = h := by omega
    simp only [g3]
    rw [List.take_take, List.take_of_length_le (by simp; omega) (i := els.length * k - i * k) (l := (c.toList.drop o2).take h), ← List.append_assoc, List.append_assoc (_ ++ _)]
    have g4 : min (els.length * k) (i * k) = i * k := by omega
    rw [g4]
    congr 1
    rw [List.take_take, List.drop_take, List.drop_drop]
    have g5 : min k (els.length * k - i * k) = k := by omega
    rw [g5]
    have g6 : els.length * k - (i * k + h) = (k - h) + (els.length * k - (i + 1) * k) := by omega
    rw [g6, List.take_add, List.drop_drop]
    have g7 : i * k + h + (k - h) = (i + 1) * k := by omega
    rw [g7]

theorem W_clearM {t kt et : TypeId} {d : TypeDesc} {x : Operand} {r : Nat} {f : Value → Option Value} [hm : Und P t (.map kt et)] (hx : evO env x = some (.map (some r))) (hr : Rem (mp d r f) L F) :
    OpW P w0 nt L env (.call ⟨.builtin .clear, #[x], #[t]⟩) ty (fun u L' => u = .tuple #[] ∧ L' = mp d r (fun _ => none) :: F) := .mk fun o ho hty a ha w hs => by
  have hs' := hs.ent hr.ent
  obtain ⟨es, clock, hown, _⟩ := mp_open hs'.own
  have hs2 : Sat w0 w (pt r (.map es clock) :: F) := ⟨hs'.os, hs'.tape, hs'.output, hs'.size, hs'.drawn, hown⟩
  have hb := hs2.read Reads.here
  have h3 : Sat w0 { w with heap := w.heap.setIfInBounds r (.map #[] clock) } (pt r (.map #[] clock) :: F) := hs2.set Upd.here rfl rfl rfl rfl rfl
  refine ⟨.tuple #[], _, _, .inl ?_, h3.ent (Ent.mp_close (by simp) (by simp) (by simp)), rfl, rfl⟩
  simp only [execOp, ho, resolve, invoke, builtin, Builtin.clear_, Sem.run_bind, Sem.run_pure, Result.andThen_ok, List.map_toArray, List.map_cons, List.map_nil, ha.eval hx]
  simp [run_underlying hm.h, MapKept.run_getObj_map hb, MapKept.run_setObj_map _ hb]

def bcell (l : List Int) : Array Value := (l.map (Value.int .u8)).toArray
theorem bcell_size (l : List Int) : (bcell l).size = l.length := by simp [bcell]
theorem bcell_one {l : List Int} : ∀ v ∈ (bcell l).toList, v.oneCell' = true := by
  intro v hv
  simp only [bcell, List.mem_map] at hv
  obtain ⟨z, _, rfl⟩ := hv; rfl
theorem flat_u8 (l : List Int) : flat (l.map u8c) = l.map (Value.int .u8) := by
  induction l with
  | nil => rfl
  | cons z r ih => simp only [flat, List.map_cons, List.flatMap_cons] at ih ⊢; rw [ih]; rfl

/-- an array, where a slice of bytes lies -/
theorem L_load_slcA {t : TypeId} {x : Operand} {b off n cap : Nat} {l : List Int} [hg : AggC P t true] [hz : SizeC P t n] (hx : evO env x = some (.pointer (some ⟨b, off, none⟩)))
    (hs : SlC L (some ⟨b, off, none⟩) 1 n cap (l.map u8c)) (h0 : 0 < n) : OpR P w0 nt L env (.load t x) ty (.agg (bcell l)) := .mk fun o ho _ a ha w hw => by
  have hlen : l.length = n := by simpa using hs.len
  obtain ⟨b', off', c, T, fr, e1, e2, e3, e4⟩ := hs.at_ _ hw.own 0 h0
  simp only [Option.some.injEq, Addr.mk.injEq, and_true] at e1
  obtain ⟨rfl, rfl⟩ := e1
  have hall : ∀ i, i < n → c[off + i]? = some (.int .u8 (l.getD i 0)) ∧ off + i + 1 ≤ c.size := fun i hi => by
    obtain ⟨b', off', c', T', fr', d1, d2, d3, d4⟩ := hs.at_ _ hw.own i hi
    simp only [Option.some.injEq, Addr.mk.injEq, and_true] at d1
    obtain ⟨rfl, rfl⟩ := d1
    rw [e2] at d2
    simp only [Option.some.injEq, Obj.cells.injEq] at d2
    obtain ⟨rfl, _⟩ := d2
    have h6 := congrArg (·[0]?) d4
    simp [u8c, List.getD, show i < l.length by omega] at h6
    rw [Array.getElem?_extract, if_pos (by omega)] at h6
    exact ⟨by simpa [List.getD, show i < l.length by omega] using h6, by omega⟩
  have hsz : off + n ≤ c.size := by have := (hall (n - 1) (by omega)).2; omega
  have h5 : c.extract off (off + n) = bcell l := by
    apply Array.ext_getElem?
    intro i
    rw [Array.getElem?_extract]
    by_cases hi : i < n
    · rw [if_pos (by omega), (hall i hi).1]
      simp [bcell, List.getD, show i < l.length by omega]
    · rw [if_neg (by omega), Array.getElem?_eq_none (by rw [bcell_size]; omega)]
  simp [execOp, ho, ha.eval hx, Instr.loadAt, Instr.sureAddr, loadVar, hg.h, hz.h, run_loadCells_of e2 hsz, h5]

/-- a store of a whole block, the sizes told -/
theorem W_storeAllS {t : TypeId} {x y : Operand} {b n : Nat} {c vs : Array Value} {T : TypeId} {C : Array Value → List HP} [SizeC P t n] (hx : evO env x = some (.pointer (some ⟨b, 0, none⟩)))
    (hy : evO env y = some (.agg vs)) (hc : Cell L b T (0, 0) c C) (hn : vs.size = n) (hm : c.size = n) (h1 : ∀ v ∈ vs.toList, v.oneCell' = true) :
    OpW P w0 nt L env (.store t x y) ty (fun u L2 => u = undef ∧ L2 = C vs) := by
  have h2 : wrs c 0 vs.toList = vs := by have := wrs_all (l := vs.toList) c.toList [] (by simp [hn, hm]); simpa using this
  have := W_storeA (P := P) (w0 := w0) (nt := nt) (env := env) (ty := ty) (t := t) hx hy hc hn h1 (by omega) (.inl (Nat.zero_le _))
  rwa [h2] at this
/-- a block of bytes as a slice that is read -/
theorem Ent.vec_block {b n : Nat} {T : TypeId} {l : List Int} {F : List HP} (hl : l.length = n) (hn : n ≤ 1000000) : Ent (pt b (.cells (bcell l) T) :: F) (vec T 1 (l.map u8c) (.slice (some ⟨b, 0, none⟩) n n) :: F) := by
  refine Ent.vec_close ?_ ?_ ?_ (Nat.le_refl _) ?_ ?_ ?_
  · intro x hx
    obtain ⟨z, _, rfl⟩ := List.mem_map.1 hx; rfl
  · simp; omega
  · simpa using hl
  · unfold maxLen; omega
  · rw [bcell_size]; omega
  · rw [flat_u8, Nat.mul_one, ← hl]; simp only [bcell, List.toList_toArray]; exact List.take_of_length_le (by simp)
end
end Go.SL

/-
  OWN BASE, PART 18: one element whose size is told, built and appended.
-/
namespace Go.SL
open Go
section
variable {P : Program} {w0 : World} {nt : Cx} {L F : List HP} {env : Env} {ty : TypeId}
theorem W_buildSlice1S {t e : TypeId} {n : Nat} {x : Operand} {cs : Array Value} {z : Value} [hu : Und P t (.slice e)] [hz : SizeC P e n] [hzz : ZeroC P e z] (hx : evO env x = some (.agg cs)) (h1 : cs.size = n)
    (h0 : Nat.beq n 0 = false) (hlt : Nat.ble n 16777216 = true) :
    OpW P w0 nt L env (.buildSlice t 1 #[(0, x)]) ty (fun u L' => ∃ b, u = .slice (some ⟨b, 0, none⟩) 1 1 ∧ L' = pt b (.cells cs e) :: L) := by
  refine W_buildSlice (ps := [(0, x)]) (vs := [(0, .agg cs)]) (by simp [evP, hx]) (by simpa using hlt) (by rw [Nat.one_mul]; exact h0) ?_
  rw [Nat.one_mul]
  exact fill_one (by simp) h1
theorem W_append1S {t e k bytes c : Nat} {x y : Operand} {els : List (Array Value)} {v : Value} {b : Nat} [Und P t (.slice e)] [ElemC P e k bytes] {ca : Array Value} {T : TypeId} {fr : Nat × Nat}
    (hx : evO env x = some v) (hy : evO env y = some (.slice (some ⟨b, 0, none⟩) 1 c)) (hr : Rem (vec e k els v) L F) (hb : ReadC F b (.cells ca T fr)) (hsz : ca.size = k)
    (h1 : ∀ u ∈ ca.toList, u.oneCell' = true) (hbytes : (els.length + 1) * bytes ≤ 140737488355328 ∧ els.length + 1 ≤ 140737488355328) :
    OpW P w0 nt L env (.call ⟨.builtin .append, #[x, y], #[t, t]⟩) ty (fun v' L' => L' = vec e k (els ++ [ca]) v' :: F) := .mk fun o ho hty a ha w hs => by
  have hs' := hs.ent hr.ent
  obtain ⟨v', w', h2, h3⟩ := run_append_vec (P := P) (ty := o.type) (c := c) (t := t) (b := b) (off := 0) (news := [ca]) (m := 1) hs' rfl (fun j u hj => by
    rw [addr_add, cell?_of (hs'.read (Reads.there hb.h)), Nat.zero_add]
    simpa [flat] using hj) (by simpa using hsz) (fun u hu => h1 u (by simpa [flat] using hu)) hbytes.1 hbytes.2
  refine ⟨v', w', _, .inl ?_, h3, rfl⟩
  simp only [execOp, ho, resolve, invoke, builtin, Sem.run_bind, Sem.run_pure, Result.andThen_ok, List.map_toArray, List.map_cons, List.map_nil, ha.eval hx, ha.eval hy, h2]
theorem sw_openL {id : Nat} {l : List Oper} {Q : Exit → Act → World → Prop} (Lr : List HP) [PanicOK Q] (hm : P.follows .mixedOrders = true) (hns : (Region.noSelect l.toArray && noDefer l) = true) (he : Ent L Lr)
    (h : SWG P w0 nt Lr L env l.toArray (Array.replicate l.toArray.size false) l.length Q) : SW P w0 nt L env (.region id l.toArray true) Q := .mk fun w a hs hr => by
  simp only [Bool.and_eq_true] at hns
  refine wpIn_region_held (S := fun w => Sat w0 w Lr) hm hns.2 ?_
  have := h.h hns.1 he w.drew a hs.drew hr
  simpa using this
theorem swh_know {Lr : List HP} {Q : Exit → Act → World → Prop} {ops : Array Oper} {listed : Array Bool} {order : List (Nat × Bool)} {φ : Prop} (hφ : ∀ h, Own L h → φ) (h : φ → SWH P w0 nt Lr L env ops listed order Q) : SWH P w0 nt Lr L env ops listed order Q := .mk fun hok hs he w a hw hr =>
  (h (hφ _ hw.own)).h hok hs he w a hw hr
end
end Go.SL

/-
  OWN BASE, PART 19: pointers against nil; texts against one another.
-/
namespace Go.SL
open Go
/-- taking a part out, by instance: it fails cleanly -/
class RemC (p : HP) (L : List HP) (L' : outParam (List HP)) : Prop where
  h : Rem p L L'
instance RemC.here {p : HP} {L : List HP} : RemC p (p :: L) L := ⟨Rem.here⟩
instance (priority := low) RemC.there {p q : HP} {L L' : List HP} [h : RemC p L L'] : RemC p (q :: L) (q :: L') := ⟨Rem.there h.h⟩
theorem Ent.pickC {p : HP} {L L1 L' : List HP} (h : RemC p L L1) (k : Ent L1 L') : Ent L (p :: L') := Ent.pick h.h k
section
variable {P : Program} {w0 : World} {nt : Cx} {L F : List HP} {env : Env} {ty : TypeId}
theorem R_eql_nil {t t' e : TypeId} {x y : Operand} {p : Option Addr} [hu : Und P t (.pointer e)] (hx : evO env x = some (.pointer p)) (hy : evO env y = some (.pointer none)) : OpR P w0 nt L env (.binOp .eql t x y t') ty (.bool p.isNone) := .mk fun o ho _ s hr w _ => by
  have h : P.underlying t = some (.pointer (P.pointee t)) := by simp [Program.pointee, hu.h]
  simp [execOp, ho, hr.eval hx, hr.eval hy, eqGuard_at_pointer, run_eql_pointer_nil w t p h]
theorem R_neq_nil {t t' e : TypeId} {x y : Operand} {p : Option Addr} [hu : Und P t (.pointer e)] (hx : evO env x = some (.pointer p)) (hy : evO env y = some (.pointer none)) : OpR P w0 nt L env (.binOp .neq t x y t') ty (.bool !p.isNone) := .mk fun o ho _ s hr w _ => by
  have h : P.underlying t = some (.pointer (P.pointee t)) := by simp [Program.pointee, hu.h]
  simp [execOp, ho, hr.eval hx, hr.eval hy, eqGuard_at_pointer, run_neq_pointer_nil w t p h]
theorem R_eql_str {t t' : TypeId} {x y : Operand} {a b : ByteArray} (hx : evO env x = some (.string a)) (hy : evO env y = some (.string b)) : OpR P w0 nt L env (.binOp .eql t x y t') ty (.bool (a.toList == b.toList)) := .mk fun o ho _ s hr w _ => by
  simp [execOp, ho, hr.eval hx, hr.eval hy, eqGuard_at_string, Go.binOp, Op.stringOp]
theorem R_neq_str {t t' : TypeId} {x y : Operand} {a b : ByteArray} (hx : evO env x = some (.string a)) (hy : evO env y = some (.string b)) : OpR P w0 nt L env (.binOp .neq t x y t') ty (.bool (!(a.toList == b.toList))) := .mk fun o ho _ s hr w _ => by
  simp [execOp, ho, hr.eval hx, hr.eval hy, eqGuard_at_string, Go.binOp, Op.stringOp, bne]
theorem R_eql_str1 {t t' : TypeId} {x y : Operand} {a b : ByteArray} (hx : evO env x = some (.string a)) (hy : evO env y = some (.string b)) (h : a = b) : OpR P w0 nt L env (.binOp .eql t x y t') ty (.bool true) := by
  have := R_eql_str (P := P) (w0 := w0) (nt := nt) (L := L) (ty := ty) (t := t) (t' := t') hx hy
  subst h; simpa using this
theorem R_neq_str1 {t t' : TypeId} {x y : Operand} {a b : ByteArray} (hx : evO env x = some (.string a)) (hy : evO env y = some (.string b)) (h : a = b) : OpR P w0 nt L env (.binOp .neq t x y t') ty (.bool false) := by
  have := R_neq_str (P := P) (w0 := w0) (nt := nt) (L := L) (ty := ty) (t := t) (t' := t') hx hy
  subst h; simpa using this
theorem res4 {fn : Func} {r1 r2 r3 r4 : ResultVar} {v1 v2 v3 v4 : Value} (hf : fn.results = #[r1, r2, r3, r4]) (h1 : ResOne P w0 nt L env r1 v1) (h2 : ResOne P w0 nt L env r2 v2) (h3 : ResOne P w0 nt L env r3 v3) (h4 : ResOne P w0 nt L env r4 v4) (a : Act) (w : World) (hr : Rel nt env a) (hs : Sat w0 w L) :
    (results fn a.tmps).run P w = .ok (.tuple #[v1, v2, v3, v4]) w := by
  simp [results_eq, hf, h1.h a w hr hs, h2.h a w hr hs, h3.h a w hr hs, h4.h a w hr hs]
theorem res5 {fn : Func} {r1 r2 r3 r4 r5 : ResultVar} {v1 v2 v3 v4 v5 : Value} (hf : fn.results = #[r1, r2, r3, r4, r5]) (h1 : ResOne P w0 nt L env r1 v1) (h2 : ResOne P w0 nt L env r2 v2) (h3 : ResOne P w0 nt L env r3 v3) (h4 : ResOne P w0 nt L env r4 v4) (h5 : ResOne P w0 nt L env r5 v5) (a : Act) (w : World) (hr : Rel nt env a) (hs : Sat w0 w L) :
    (results fn a.tmps).run P w = .ok (.tuple #[v1, v2, v3, v4, v5]) w := by
  simp [results_eq, hf, h1.h a w hr hs, h2.h a w hr hs, h3.h a w hr hs, h4.h a w hr hs, h5.h a w hr hs]
end
end Go.SL
