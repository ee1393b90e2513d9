/-
  OWN BASE, PART 10: the arguments of a row, as slices that are read.
-/
import Derived.Test.YtcpfehldofmipaaDoorBase9
import Derived.ProofKit
import Derived.OpenShut
import Derived.Deep.Slices
import Derived.Deep.Strs
import Derived.SizedLaws
namespace Go.SL
open Go Go.Deep Go.ChangeShapes Go.WideShapes

theorem cells_of_cell {w : World} {b off : Nat} {v : Value} (h : w.cell? ⟨b, off, none⟩ = some v) : ∃ c T fr, w.heap[b]? = some (.cells c T fr) ∧ c[off]? = some v := by
  unfold World.cell? at h
  split at h
  · rename_i c T fr hb
    exact ⟨c, T, fr, hb, by simpa using h⟩
  · cases h

section
variable {H : Type} {enc : TypeId × Value → H} {P : Program} {w : World} {base : Nat} {spare : Nat → Bool} {held : Bool}

/-- A slice that an argument holds: a list of things, each of k cells. -/
theorem open_slc {α : Type} [Inhabited α] (ec : α → Array Value) (Q : α → Prop) {k : Nat} (hk : ∀ a, (ec a).size = k) (h0 : 0 < k) {t e : TypeId} {fuel : Nat} {p : Option Addr} {n cap : Nat} {x : DataW H × List MemPlace} (ht : P.underlying t = some (.slice e)) (hc : P.cellsOf e = k)
    (hel : ∀ cs m y, DataW.trod enc P w base spare held m e cs = some y → ∃ a, cs = (ec a).toList ∧ Q a) (h : DataW.trod enc P w base spare held fuel t [.slice p n cap] = some x)
    (hb : ∀ elems sp, x.1 = .slice elems sp → elems.length ≤ 140737488355328) :
    ∃ l : List α, SlC [whole w] p k n cap (l.map ec) ∧ (∀ a ∈ l, Q a) ∧ n = l.length := by
  rcases open_slice ht h with ⟨h1, _⟩ | ⟨a, len, cp, m, fu, D, Pl, h1, _, hl, hm, hmm, rfl, hx⟩
  · simp only [List.cons.injEq, Value.slice.injEq, and_true] at h1
    obtain ⟨rfl, rfl, rfl⟩ := h1
    exact ⟨[], ⟨rfl, Nat.le_refl _, by simp, by simp, by simp⟩, by simp, rfl⟩
  · simp only [List.cons.injEq, Value.slice.injEq, and_true] at h1
    obtain ⟨rfl, rfl, rfl⟩ := h1
    have hlm : n ≤ m := by rw [hmm]; split <;> omega
    have hbd : n ≤ 140737488355328 := by have := hb _ _ rfl; simpa using this
    have each : ∀ i, i < n → ∃ z : α, Q z ∧ ∀ j, j < k → w.cell? ((a.add (i * k)).add j) = (ec z)[j]? := by
      intro i hi
      obtain ⟨cs', h1, h2⟩ := hx i (by omega)
      rw [hc] at h1
      obtain ⟨_, hlen, hcell⟩ := World.cells?_some h1
      obtain ⟨z, rfl, hq⟩ := hel _ _ _ h2
      exact ⟨z, hq, fun j hj => by rw [hcell j hj]; simp⟩
    obtain ⟨f, hf⟩ := choose_lt each
    have hlen : ((List.range n).map f).length = n := by simp
    refine ⟨(List.range n).map f, ⟨by simp, hl, hbd, ?_, ?_⟩, ?_, hlen.symm⟩
    · intro hn
      have h1 := (hf 0 hn).2 0 h0
      rw [Array.getElem?_eq_getElem (by rw [hk]; exact h0)] at h1
      have hs := World.cell?_spot h1
      obtain ⟨b, off, spot⟩ := a
      have : spot = none := by simpa [Addr.add] using hs
      exact ⟨b, off, by rw [this]⟩
    · intro hh hown i hi
      have hcl := (hf i hi).2
      have hs0 := hcl 0 h0
      rw [Array.getElem?_eq_getElem (by rw [hk]; exact h0)] at hs0
      obtain ⟨b, off, spot⟩ := a
      have hz0 := (hf 0 (by omega)).2 0 h0
      rw [Array.getElem?_eq_getElem (show 0 < (ec (f 0)).size by rw [hk]; exact h0)] at hz0
      have hsp : spot = none := by have := World.cell?_spot hz0; simpa [Addr.add] using this
      subst hsp
      simp only [addr_add] at hcl hs0
      obtain ⟨c, T, fr, hb1, hc1⟩ := cells_of_cell hs0
      have hall : ∀ j, j < k → c[off + i * k + j]? = (ec (f i))[j]? := by
        intro j hj
        have h2 := hcl j hj
        rw [cell?_of hb1] at h2
        exact h2
      have hlast := hall (k - 1) (by omega)
      rw [Array.getElem?_eq_getElem (show k - 1 < (ec (f i)).size by rw [hk]; omega)] at hlast
      have hsz := (Array.getElem?_eq_some_iff.1 hlast).1
      refine ⟨b, off, c, T, fr, rfl, Reads.own (Reads.whole hb1) hown, by omega, ?_⟩
      have hget : (((List.range n).map f).map ec).getD i #[] = ec (f i) := by simp [hi]
      rw [hget]
      apply Array.ext_getElem?
      intro j
      rw [Array.getElem?_extract]
      by_cases hj : j < k
      · rw [if_pos (by omega)]; exact hall j hj
      · rw [if_neg (by omega), Array.getElem?_eq_none (by rw [hk]; omega)]
    · intro z hz
      obtain ⟨i, hi, rfl⟩ := List.mem_map.1 hz
      exact (hf i (List.mem_range.1 hi)).1
end
end Go.SL
