/-
  OWN BASE, PART 16: slices behind an element.
-/
import Derived.Test.YtcpfehldofmipaaDoorBase15
namespace Go.SL
open Go
theorem SlC.drop {L : List HP} {b off k n cap : Nat} {els : List (Array Value)} (h : SlC L (some ⟨b, off, none⟩) k n cap els) (m : Nat) (hm : m ≤ n) : SlC L (some ⟨b, off + m * k, none⟩) k (n - m) (cap - m) (els.drop m) := by
  have h1 := h.len; have h2 := h.le; have h3 := h.bd
  refine ⟨by simp; omega, by omega, by omega, fun _ => ⟨_, _, rfl⟩, fun g hg i hi => ?_⟩
  obtain ⟨b', off', c, T, fr, e1, e2, e3, e4⟩ := h.at_ g hg (m + i) (by omega)
  simp only [Option.some.injEq, Addr.mk.injEq, and_true] at e1
  obtain ⟨rfl, rfl⟩ := e1
  rw [Nat.add_mul, ← Nat.add_assoc] at e3 e4
  refine ⟨b, off + m * k, c, T, fr, rfl, e2, e3, ?_⟩
  rw [e4]; simp [List.getD_eq_getElem?_getD]
theorem SlC.sub {L : List HP} {b off k n cap : Nat} {els : List (Array Value)} (h : SlC L (some ⟨b, off, none⟩) k n cap els) (m n' : Nat) (hm : m ≤ n') (hn : n' ≤ n) : SlC L (some ⟨b, off + m * k, none⟩) k (n' - m) (cap - m) ((els.take n').drop m) :=
  (h.take n' hn).drop m hm
end Go.SL
