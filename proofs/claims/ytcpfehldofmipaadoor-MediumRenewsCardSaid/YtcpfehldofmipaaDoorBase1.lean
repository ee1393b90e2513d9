/-
  OWN BASE, PART 1: what a world holds, as a list of parts that lie apart from one another ('Own'), and what of it a run keeps ('Sat').
-/
import Derived.Tactics
import Derived.OrdersHeld
import Derived.Below
namespace Go.SL
open Go

abbrev Hp := Nat → Option Obj
abbrev HP := Hp → Prop

/-- h is p and q, apart. -/
def Split (h p q : Hp) : Prop := ∀ b, (p b = h b ∧ q b = none) ∨ (q b = h b ∧ p b = none)

def minus (h p : Hp) : Hp := fun b => if (p b).isSome then none else h b
def plus (p q : Hp) : Hp := fun b => if (p b).isSome then p b else q b

/-- h holds these parts, apart from one another; what is left over is nobody's. -/
def Own : List HP → Hp → Prop
  | [], _ => True
  | P :: L, h => ∃ p q, Split h p q ∧ P p ∧ Own L q

theorem own_mono {L : List HP} : ∀ {q h : Hp}, Own L q → (∀ b, q b ≠ none → h b = q b) → Own L h := by
  induction L with
  | nil => intro _ _ _ _; trivial
  | cons P L ih =>
    rintro q h ⟨p, r, hs, hP, hL⟩ hq
    refine ⟨p, minus h p, fun b => ?_, hP, ih hL fun b hb => ?_⟩
    · have h1 := hs b; have h2 := hq b; unfold minus
      cases hp : p b <;> grind
    · have h1 := hs b; have h2 := hq b; unfold minus
      cases hp : p b <;> grind

theorem own_swap {P Q : HP} {L : List HP} {h : Hp} (H : Own (P :: Q :: L) h) : Own (Q :: P :: L) h := by
  obtain ⟨p, r, h1, hP, q, s, h2, hQ, hL⟩ := H
  refine ⟨q, minus h q, fun b => ?_, hQ, p, s, fun b => ?_, hP, hL⟩
  · have := h1 b; have := h2 b; unfold minus
    cases hq : q b <;> grind
  · have := h1 b; have := h2 b; unfold minus
    cases hq : q b <;> grind

theorem own_cons_imp {P : HP} {L L' : List HP} (hi : ∀ h, Own L h → Own L' h) {h : Hp} (H : Own (P :: L) h) : Own (P :: L') h := by
  obtain ⟨p, q, hs, hP, hL⟩ := H
  exact ⟨p, q, hs, hP, hi _ hL⟩

theorem own_drop {P : HP} {L : List HP} {h : Hp} (H : Own (P :: L) h) : Own L h := by
  obtain ⟨p, q, hs, _, hL⟩ := H
  refine own_mono hL fun b hb => ?_
  have := hs b
  simp_all

theorem own_perm {L L' : List HP} (hp : L.Perm L') : ∀ {h : Hp}, Own L h → Own L' h := by
  induction hp with
  | nil => exact fun H => H
  | cons x _ ih => exact fun H => own_cons_imp (fun _ => ih) H
  | swap x y l => exact fun H => own_swap H
  | trans _ _ ih1 ih2 => exact fun H => ih2 (ih1 H)

/-- From what L says, L' follows. -/
def Ent (L L' : List HP) : Prop := ∀ h, Own L h → Own L' h

theorem Ent.refl (L : List HP) : Ent L L := fun _ H => H
theorem Ent.trans {A B C : List HP} (h : Ent A B) (k : Ent B C) : Ent A C := fun _ H => k _ (h _ H)
theorem Ent.nil {L : List HP} : Ent L [] := fun _ _ => trivial
theorem Ent.drop {P : HP} {L L' : List HP} (h : Ent L L') : Ent (P :: L) L' := fun _ H => h _ (own_drop H)
theorem Ent.cons {P : HP} {L L' : List HP} (h : Ent L L') : Ent (P :: L) (P :: L') := fun _ H => own_cons_imp h H
theorem Ent.imp {P P' : HP} {L L' : List HP} (hp : ∀ h, P h → P' h) (h : Ent L L') : Ent (P :: L) (P' :: L') := fun _ ⟨p, q, hs, hP, hL⟩ => ⟨p, q, hs, hp _ hP, h _ hL⟩
theorem Ent.of_perm {L L' : List HP} (h : L.Perm L') : Ent L L' := fun _ H => own_perm h H

/-- P taken out of L leaves L'. -/
inductive Rem (P : HP) : List HP → List HP → Prop
  | here {L : List HP} : Rem P (P :: L) L
  | there {Q : HP} {L L' : List HP} (h : Rem P L L') : Rem P (Q :: L) (Q :: L')

theorem Rem.ent {P : HP} {L L' : List HP} (h : Rem P L L') : Ent L (P :: L') := by
  induction h with
  | here => exact Ent.refl _
  | there _ ih => exact fun _ H => own_swap (own_cons_imp ih H)

theorem Ent.pick {P : HP} {L L1 L' : List HP} (h : Rem P L L1) (k : Ent L1 L') : Ent L (P :: L') := h.ent.trans (Ent.cons k)

/-- All of A taken out of L, one by one, leave F. -/
inductive Rems : List HP → List HP → List HP → Prop
  | nil {L : List HP} : Rems [] L L
  | cons {P : HP} {A L L1 F : List HP} (h : Rem P L L1) (k : Rems A L1 F) : Rems (P :: A) L F

theorem Rems.ent {A L F : List HP} (h : Rems A L F) : Ent L (A ++ F) := by
  induction h with
  | nil => exact Ent.refl _
  | cons hr _ ih => exact Ent.pick hr ih

/-- Several parts as one. -/
def st (A : List HP) : HP := Own A

theorem Ent.open_st {A L : List HP} : Ent (st A :: L) (A ++ L) := by
  intro h ⟨p, q, hs, hA, hL⟩
  induction A generalizing h p with
  | nil => exact own_mono hL fun b hb => by have := hs b; simp_all
  | cons P A ih =>
    obtain ⟨a, r, h1, hP, hA'⟩ := hA
    refine ⟨a, minus h a, fun b => ?_, hP, ih _ r (fun b => ?_) hA'⟩
    · have := hs b; have := h1 b; unfold minus
      cases ha : a b <;> grind
    · have := hs b; have := h1 b; unfold minus
      cases ha : a b <;> grind

theorem Ent.shut_st {A L : List HP} : Ent (A ++ L) (st A :: L) := by
  intro h H
  induction A generalizing h with
  | nil => exact ⟨fun _ => none, h, fun b => .inr ⟨rfl, rfl⟩, trivial, H⟩
  | cons P A ih =>
    obtain ⟨a, r, h1, hP, hr⟩ := H
    obtain ⟨p, q, h2, hA, hL⟩ := ih r hr
    refine ⟨plus a p, q, fun b => ?_, ⟨a, p, fun b => ?_, hP, hA⟩, hL⟩
    · have := h1 b; have := h2 b; unfold plus
      cases ha : a b <;> grind
    · have := h1 b; have := h2 b; unfold plus
      cases ha : a b <;> grind

/-- Block b is o. -/
def pt (b : Nat) (o : Obj) : HP := fun h => h b = some o
/-- A fact. -/
def fact (φ : Prop) : HP := fun _ => φ
/-- There is one. -/
def ex {α : Type} (p : α → HP) : HP := fun h => ∃ a, p a h
/-- All that a world held. -/
def whole (W : World) : HP := fun h => ∀ b, b < W.heap.size → h b = W.heap[b]?

theorem own_fact {φ : Prop} {L : List HP} {h : Hp} (H : Own (fact φ :: L) h) : φ := by
  obtain ⟨_, _, _, hφ, _⟩ := H; exact hφ
theorem Ent.fact_intro {φ : Prop} {L : List HP} (hφ : φ) : Ent L (fact φ :: L) := fun h H => ⟨fun _ => none, h, fun _ => .inr ⟨rfl, rfl⟩, hφ, H⟩
theorem own_ex {α : Type} {p : α → HP} {L : List HP} {h : Hp} (H : Own (ex p :: L) h) : ∃ a, Own (p a :: L) h := by
  obtain ⟨q, r, hs, ⟨a, ha⟩, hL⟩ := H; exact ⟨a, q, r, hs, ha, hL⟩
theorem Ent.ex_intro {α : Type} {p : α → HP} {L : List HP} (a : α) : Ent (p a :: L) (ex p :: L) := fun _ ⟨q, r, hs, ha, hL⟩ => ⟨q, r, hs, ⟨a, ha⟩, hL⟩

/-- Whatever holds L holds o in block b. -/
def Reads (L : List HP) (b : Nat) (o : Obj) : Prop := ∀ h, Own L h → h b = some o

theorem Reads.here {b : Nat} {o : Obj} {L : List HP} : Reads (pt b o :: L) b o := fun h ⟨p, q, hs, hp, _⟩ => by
  have := hs b; unfold pt at hp; simp_all
theorem Reads.there {b : Nat} {o : Obj} {P : HP} {L : List HP} (H : Reads L b o) : Reads (P :: L) b o := fun h ⟨p, q, hs, _, hL⟩ => by
  have := hs b; have := H q hL; simp_all
theorem Reads.whole {b : Nat} {o : Obj} {W : World} {L : List HP} (hb : W.heap[b]? = some o) : Reads (whole W :: L) b o := fun h ⟨p, q, hs, hp, _⟩ => by
  have hlt : b < W.heap.size := by
    rcases Nat.lt_or_ge b W.heap.size with h' | h'
    · exact h'
    · simp [Array.getElem?_eq_none h'] at hb
  have := hs b; have := hp b hlt; simp_all
theorem Reads.ent {L L' : List HP} {b : Nat} {o : Obj} (h : Ent L L') (H : Reads L' b o) : Reads L b o := fun p hp => H p (h p hp)

/-- In L block b is o; with o' in its place it is L'. -/
def Upd (L : List HP) (b : Nat) (o o' : Obj) (L' : List HP) : Prop := ∀ h, Own L h → h b = some o ∧ Own L' (fun c => if c = b then some o' else h c)

theorem Upd.here {b : Nat} {o o' : Obj} {L : List HP} : Upd (pt b o :: L) b o o' (pt b o' :: L) := fun h H => by
  refine ⟨Reads.here h H, ?_⟩
  obtain ⟨p, q, hs, hp, hL⟩ := H
  refine ⟨fun c => if c = b then some o' else p c, q, fun c => ?_, ?_, hL⟩
  · have := hs c; unfold pt at hp
    by_cases hc : c = b
    · subst hc; left; simp_all
    · simp_all
  · simp [pt]
theorem Upd.there {b : Nat} {o o' : Obj} {P : HP} {L L' : List HP} (H : Upd L b o o' L') : Upd (P :: L) b o o' (P :: L') := fun h ⟨p, q, hs, hP, hL⟩ => by
  obtain ⟨h1, h2⟩ := H q hL
  have hb := hs b
  refine ⟨by simp_all, p, fun c => if c = b then some o' else q c, fun c => ?_, hP, h2⟩
  have := hs c
  by_cases hc : c = b
  · subst hc; right; simp_all
  · simp_all

/-! ### The world -/

structure Sat (w0 w : World) (L : List HP) : Prop where
  os : w.os = w0.os
  tape : w.tape = w0.tape
  output : w.output = w0.output
  size : w0.heap.size ≤ w.heap.size
  drawn : w0.drawn ≤ w.drawn
  own : Own L fun b => w.heap[b]?

theorem Sat.ent {w0 w : World} {L L' : List HP} (h : Sat w0 w L) (e : Ent L L') : Sat w0 w L' := ⟨h.os, h.tape, h.output, h.size, h.drawn, e _ h.own⟩

theorem Sat.read {w0 w : World} {L : List HP} {b : Nat} {o : Obj} (h : Sat w0 w L) (r : Reads L b o) : w.heap[b]? = some o := r _ h.own

theorem Sat.drew {w0 w : World} {L : List HP} (h : Sat w0 w L) : Sat w0 w.drew L := ⟨h.os, h.tape, h.output, h.size, Nat.le_succ_of_le h.drawn, h.own⟩

theorem Sat.alloc {w0 w : World} {L : List HP} (h : Sat w0 w L) (o : Obj) : Sat w0 (w.alloc o) (pt w.heap.size o :: L) := by
  refine ⟨h.os, h.tape, h.output, by have := h.size; simp; omega, h.drawn, fun b => if b = w.heap.size then some o else none, fun b => w.heap[b]?, fun b => ?_, by simp [pt], h.own⟩
  simp only [World.alloc, Array.getElem?_push]
  by_cases hb : b = w.heap.size
  · subst hb; simp
  · simp [hb]

theorem Sat.set {w0 w : World} {L L' : List HP} {b : Nat} {o o' : Obj} (h : Sat w0 w L) (u : Upd L b o o' L') {w' : World} (hos : w'.os = w.os) (ht : w'.tape = w.tape) (ho : w'.output = w.output) (hd : w'.drawn = w.drawn)
    (hh : w'.heap = w.heap.setIfInBounds b o') : Sat w0 w' L' := by
  obtain ⟨h1, h2⟩ := u _ h.own
  refine ⟨hos.trans h.os, ht.trans h.tape, ho.trans h.output, by rw [hh]; simpa using h.size, hd ▸ h.drawn, ?_⟩
  have hlt : b < w.heap.size := by
    rcases Nat.lt_or_ge b w.heap.size with h' | h'
    · exact h'
    · simp [Array.getElem?_eq_none h'] at h1
  have : (fun c => w'.heap[c]?) = fun c => if c = b then some o' else w.heap[c]? := by
    funext c
    rw [hh, Array.getElem?_setIfInBounds]
    by_cases hc : b = c
    · subst hc; simp [hlt]
    · simp [hc, Ne.symm hc]
  rw [this]; exact h2

theorem cell?_of {w : World} {b : Nat} {c : Array Value} {T : TypeId} {fr : Nat × Nat} (h : w.heap[b]? = some (.cells c T fr)) (off : Nat) : w.cell? ⟨b, off, none⟩ = c[off]? := by
  simp [World.cell?, h]
theorem frozen?_of {w : World} {b : Nat} {c : Array Value} {T : TypeId} {fr : Nat × Nat} (h : w.heap[b]? = some (.cells c T fr)) (off : Nat) : w.frozen? ⟨b, off, none⟩ = (fr.1 ≤ off && off < fr.2) := by
  simp [World.frozen?, h]

theorem Sat.setCell {w0 w : World} {L L' : List HP} {b off : Nat} {c : Array Value} {T : TypeId} {fr : Nat × Nat} {v : Value} (h : Sat w0 w L)
    (u : Upd L b (.cells c T fr) (.cells (c.setIfInBounds off v) T fr) L') : Sat w0 (w.setCell ⟨b, off, none⟩ v) L' := by
  have h1 := (u _ h.own).1
  refine h.set u rfl rfl rfl rfl ?_
  apply Array.ext_getElem?
  intro i
  simp only [World.setCell, Array.getElem?_modify, Array.getElem?_setIfInBounds]
  by_cases hi : b = i
  · subst hi
    have hlt : b < w.heap.size := by
      rcases Nat.lt_or_ge b w.heap.size with h' | h'
      · exact h'
      · simp [Array.getElem?_eq_none h'] at h1
    have h1' : w.heap[b]? = some (.cells c T fr) := h1
    have h2 : w.heap[b] = .cells c T fr := by rw [Array.getElem?_eq_getElem hlt] at h1'; exact Option.some.inj h1'
    simp [h2, hlt]
  · simp [hi]

/-- The beginning: all that the world holds. -/
theorem Sat.start (w : World) : Sat w w [whole w] :=
  ⟨rfl, rfl, rfl, Nat.le_refl _, Nat.le_refl _, fun b => w.heap[b]?, fun _ => none, fun _ => .inl ⟨rfl, rfl⟩, fun _ _ => rfl, trivial⟩

/-- The end: what was there is as it was. -/
theorem Sat.below {w w' : World} {L : List HP} (h : Sat w w' (whole w :: L)) : RowKit.Below w.heap.size w w' := by
  refine ⟨h.os, h.tape, h.output, h.size, fun k hk => ?_⟩
  obtain ⟨p, q, hs, hp, _⟩ := h.own
  have h1 := hs k
  have h2 := hp k hk
  have h3 : w.heap[k]? ≠ none := by simp [hk]
  rcases h1 with ⟨h1, _⟩ | ⟨_, h1⟩
  · exact h1.symm.trans h2
  · rw [h1] at h2; exact absurd h2.symm h3

theorem Upd.reads {L L' : List HP} {b : Nat} {o o' : Obj} (h : Upd L b o o' L') : Reads L b o := fun q hq => (h q hq).1

theorem Sat.mk_own {w0 w w' : World} {L L' : List HP} (h : Sat w0 w L) (hos : w'.os = w.os) (ht : w'.tape = w.tape) (ho : w'.output = w.output) (hz : w.heap.size ≤ w'.heap.size) (hd : w.drawn ≤ w'.drawn)
    (k : Own L' fun b => w'.heap[b]?) : Sat w0 w' L' := ⟨hos.trans h.os, ht.trans h.tape, ho.trans h.output, Nat.le_trans h.size hz, Nat.le_trans h.drawn hd, k⟩
theorem own_cons {P : HP} {L : List HP} {h : Hp} : Own (P :: L) h ↔ ∃ p q, Split h p q ∧ P p ∧ Own L q := Iff.rfl
theorem pt_iff {b : Nat} {o : Obj} {h : Hp} : pt b o h ↔ h b = some o := Iff.rfl
theorem own_mono' {L : List HP} {q h : Hp} (H : Own L q) (k : ∀ b, q b ≠ none → h b = q b) : Own L h := own_mono H k
theorem Reads.own {L : List HP} {b : Nat} {o : Obj} {h : Hp} (r : Reads L b o) (H : Own L h) : h b = some o := r h H
theorem Ent.own {L L' : List HP} {h : Hp} (e : Ent L L') (H : Own L h) : Own L' h := e h H
theorem Ent.mk {L L' : List HP} (h : ∀ p, Own L p → Own L' p) : Ent L L' := h

attribute [irreducible] Own Ent Reads Upd pt fact ex whole st

end Go.SL
