/-
  OWN BASE, PART 6: stores into the elements of a slice of the call's own; shorter slices; the empty one.
-/
import Derived.Test.YtcpfehldofmipaaDoorBase5
namespace Go.SL
open Go

section
variable {P : Program} {w0 : World} {nt : Nat} {L F : List HP} {env : Env} {ty : TypeId}

theorem flat_set {k : Nat} : ∀ {els : List (Array Value)} (i : Nat) (c : Array Value) (f : Nat) (v : Value), (∀ x ∈ els, x.size = k) → els[i]? = some c → f < k →
    flat (els.set i (c.setIfInBounds f v)) = (flat els).set (i * k + f) v
  | [], i, c, f, v, _, h, _ => by simp at h
  | e :: r, 0, c, f, v, hk, h, hf => by
    obtain rfl : e = c := by simpa using h
    have h1 := hk e (by simp)
    simp only [flat, List.set_cons_zero, List.flatMap_cons, Nat.zero_mul, Nat.zero_add]
    rw [List.set_append_left _ _ (by simpa [h1] using hf), Array.toList_setIfInBounds]
  | e :: r, i + 1, c, f, v, hk, h, hf => by
    have h1 := hk e (by simp)
    have h2 := flat_set (els := r) i c f v (fun x hx => hk x (by simp [hx])) (by simpa using h) hf
    simp only [flat, List.set_cons_succ, List.flatMap_cons] at h2 ⊢
    rw [h2, List.set_append_right _ _ (by rw [Array.length_toList, h1, Nat.add_mul]; omega)]
    congr 2
    rw [Array.length_toList, h1, Nat.add_mul]; omega

/-- one field of an element of a slice of the call's own -/
theorem W_store_elf {t : TypeId} {x y : Operand} {e k g off i f n cap : Nat} {els : List (Array Value)} {cs : Array Value} {v : Value} [SizeC P t 1] (hx : evO env x = some (.pointer (some ⟨g, off + i * k + f, none⟩)))
    (hy : evO env y = some v) (hr : Rem (vec e k els (.slice (some ⟨g, off, none⟩) n cap)) L F) (h1 : v.oneCell' = true) (hi : i < els.length) (hv : els.getD i #[] = cs) (hf : Nat.blt f k = true) {l' : List Value} (hl : lset cs.toList f v = l') :
    OpW P w0 nt L env (.store t x y) ty (fun u L2 => u = undef ∧ L2 = vec e k (els.set i l'.toArray) (.slice (some ⟨g, off, none⟩) n cap) :: F) := .mk fun o ho hty a ha w hs => by
  have hs' := hs.ent (Ent.pick hr (Ent.refl F))
  obtain ⟨hke, hb, hp⟩ := vec_open hs'.own
  rcases hp with ⟨h, _⟩ | ⟨g', cap', cur, h, hnc, hcm, hsz, htk, H⟩
  · cases h
  simp only [Value.slice.injEq, Option.some.injEq, Addr.mk.injEq, and_true] at h
  obtain ⟨⟨rfl, rfl⟩, rfl, rfl⟩ := h
  have hs2 : Sat w0 w (pt g (.cells cur e) :: F) := ⟨hs'.os, hs'.tape, hs'.output, hs'.size, hs'.drawn, H⟩
  have hf' : f < k := by simpa using hf
  have hik : i * k + f < els.length * k := by
    have : (i + 1) * k ≤ els.length * k := Nat.mul_le_mul_right k hi
    rw [Nat.add_mul] at this; omega
  have hcap : els.length * k ≤ cap * k := Nat.mul_le_mul_right k hnc
  have hcs : els[i]? = some cs := by rw [← hv]; simp [hi]
  have hst := W_store1 (P := P) (w0 := w0) (nt := nt) (ty := ty) (t := t) (L := pt g (.cells cur e) :: F) hx hy Cell.head h1 (by omega) (by simp)
  obtain ⟨v2, w2, L2, h2, h3, rfl, rfl⟩ := hst.h o ho hty a ha w hs2
  refine ⟨undef, w2, _, h2, h3.ent (Ent.vec_close ?_ ?_ ?_ hnc hcm ?_ ?_), rfl, rfl⟩
  · intro z hz
    rcases List.mem_or_eq_of_mem_set hz with hz | rfl
    · exact hke z hz
    · rw [← hl, lset_eq, List.size_toArray, List.length_set, Array.length_toList]; exact hke cs (List.mem_of_getElem? hcs)
  · rw [List.length_set]; exact hb
  · rw [List.length_set]
  · rw [Array.size_setIfInBounds]; exact hsz
  · have hl2 : l'.toArray = cs.setIfInBounds f v := by rw [← hl, lset_eq]; apply Array.ext'; simp
    rw [hl2, flat_set i cs f v hke hcs hf', Array.toList_setIfInBounds, List.take_set, htk]
    congr 1; omega

/-- a shorter slice of the same row -/
theorem Ent.vec_take {e k n cap m : Nat} {p : Option Addr} {els : List (Array Value)} {F : List HP} (hm : m ≤ els.length) : Ent (vec e k els (.slice p n cap) :: F) (vec e k (els.take m) (.slice p m cap) :: F) := Ent.mk fun h H => by
  obtain ⟨hke, hb, hp⟩ := vec_open H
  rcases hp with ⟨h, rfl⟩ | ⟨g, cap', cur, h, hnc, hcm, hsz, htk, HH⟩
  · cases h
    obtain rfl : m = 0 := by simpa using hm
    exact H
  · cases h
    have hlm : (els.take m).length = m := by rw [List.length_take]; omega
    have hkt : ∀ x ∈ els.take m, x.size = k := fun x hx => hke x (List.mem_of_mem_take hx)
    refine (Ent.vec_close hkt (by omega) hlm (by omega) hcm hsz ?_).own HH
    have h1 : flat els = flat (els.take m) ++ flat (els.drop m) := by rw [← flat_append, List.take_append_drop]
    have h2 : (flat (els.take m)).length = m * k := by rw [flat_length hkt, hlm]
    have h3 : m * k ≤ els.length * k := Nat.mul_le_mul_right k hm
    have h4 := congrArg (List.take (m * k)) htk
    rw [List.take_take, Nat.min_eq_left h3, h1, ← h2, List.take_left] at h4
    rw [← h2]; exact h4

/-- a slice of no elements, that is not nil -/
theorem W_buildSlice0 {t e : TypeId} {n : Nat} [hu : Und P t (.slice e)] [hz : SizeC P e n] :
    OpW P w0 nt L env (.buildSlice t 0 #[]) ty (fun u L' => ∃ b, u = .slice (some ⟨b, 0, none⟩) 0 0 ∧ L' = vec e n [] (.slice (some ⟨b, 0, none⟩) 0 0) :: L) := .mk fun o ho _ a hr w hs => by
  refine ⟨_, _, _, .inl ?_, (hs.alloc (.cells #[] e)).ent (Ent.vec_close (k := n) (n := 0) (cap := 0) (els := []) (by simp) (by simp) rfl (Nat.le_refl _) (by unfold maxLen; omega) (by simp) (by simp [flat])), w.heap.size, rfl, rfl⟩
  simp [execOp, ho, Instr.buildSlice, run_underlying hu.h, hz.h, Instr.fill, newRow, run_newObj]
  rw [show Array.range 0 = #[] by simp [Array.range_zero'], Array.map_empty]
end
end Go.SL
