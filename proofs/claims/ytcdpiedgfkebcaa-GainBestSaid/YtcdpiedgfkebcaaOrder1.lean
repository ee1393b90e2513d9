/-
  The order of uses, in plain words: one order, and what moves it.
-/
import Derived.Test.YtcdpiedgfkebcaaGain1
namespace Go.Proofs.Ytcdpiedgfkebcaa
open Go Go.SL Go.Proofs

theorem cmp3_neg (x y : Int) : cmp3 x y = -cmp3 y x := by
  unfold cmp3
  split
  · split
    · omega
    · simp
  · split <;> simp
theorem cmp3_self (x : Int) : cmp3 x x = 0 := by simp [cmp3]
theorem cmp3_bd (x y : Int) : -1 ≤ cmp3 x y ∧ cmp3 x y ≤ 1 := by unfold cmp3; split <;> (try split) <;> simp
theorem cmp3_nonneg (x y : Int) : 0 ≤ cmp3 x y ↔ y ≤ x := by
  unfold cmp3
  split
  · constructor <;> intro h <;> omega
  · split <;> constructor <;> intro h <;> omega
theorem cmp3_pos (x y : Int) : 0 < cmp3 x y ↔ y < x := by
  unfold cmp3
  split
  · constructor <;> intro h <;> omega
  · split <;> constructor <;> intro h <;> omega
theorem cmp3_one (x y : Int) (h : y < x) : cmp3 x y = 1 := by
  unfold cmp3
  rw [if_neg (by omega), if_pos h]

theorem gainC_neg (a b : Use) (now : Int) : gainC a b now = -gainC b a now := by
  unfold gainC
  rw [Bool.and_comm]
  split
  · exact cmp3_neg _ _
  · rfl
theorem gainC_self (a : Use) (now : Int) : gainC a a now = 0 := by
  unfold gainC
  split
  · exact cmp3_self _
  · rfl
theorem gainC_bd (a b : Use) (now : Int) : -1 ≤ gainC a b now ∧ gainC a b now ≤ 1 := by
  unfold gainC
  split
  · exact cmp3_bd _ _
  · omega

theorem frac_trans' {a1 b1 a2 b2 a3 b3 : Int} (h1 : 0 < b1) (h2 : 0 < b2) (h3 : 0 < b3) :
    (a2 * b1 ≤ a1 * b2 → a3 * b2 ≤ a2 * b3 → a3 * b1 ≤ a1 * b3) ∧ (a2 * b1 < a1 * b2 → a3 * b2 ≤ a2 * b3 → a3 * b1 < a1 * b3) := by
  have e1 : a2 * b1 * b3 = a2 * b3 * b1 := Int.mul_right_comm _ _ _
  have e2 : a3 * b2 * b1 = a3 * b1 * b2 := Int.mul_right_comm _ _ _
  have e3 : a1 * b2 * b3 = a1 * b3 * b2 := Int.mul_right_comm _ _ _
  refine ⟨fun p q => ?_, fun p q => ?_⟩
  · have p' := Int.mul_le_mul_of_nonneg_right p (Int.le_of_lt h3)
    have q' := Int.mul_le_mul_of_nonneg_right q (Int.le_of_lt h1)
    exact Int.le_of_mul_le_mul_right (show a3 * b1 * b2 ≤ a1 * b3 * b2 by omega) h2
  · have p' := Int.mul_lt_mul_of_pos_right p h3
    have q' := Int.mul_le_mul_of_nonneg_right q (Int.le_of_lt h1)
    exact Int.lt_of_mul_lt_mul_right (show a3 * b1 * b2 < a1 * b3 * b2 by omega) (Int.le_of_lt h2)

theorem below_pos {u : Use} {now : Int} (h : mayU u now = true) : 0 < below u := by
  simp only [mayU, decide_eq_true_eq] at h
  unfold below; omega
theorem gainC_trans (a b c : Use) (now : Int) (ha : mayU a now = true) (hb : mayU b now = true) (hc : mayU c now = true) :
    (0 ≤ gainC a b now → 0 ≤ gainC b c now → 0 ≤ gainC a c now) ∧ (0 < gainC a b now → 0 < gainC b c now → 0 < gainC a c now) := by
  simp only [gainC, ha, hb, hc, Bool.and_self, if_true, gcmp, cmp3_nonneg, cmp3_pos]
  obtain ⟨h1, h2⟩ := frac_trans' (a1 := above a now) (a2 := above b now) (a3 := above c now) (below_pos ha) (below_pos hb) (below_pos hc)
  exact ⟨h1, fun p q => h2 p (Int.le_of_lt q)⟩
theorem gainC_live (a b : Use) (now : Int) (ha : mayU a now = true) (hb : mayU b now = true) (ht : a.tick = b.tick) (hl : a.live < b.live) : gainC a b now = 1 := by
  simp only [gainC, ha, hb, Bool.and_self, if_true, gcmp]
  refine cmp3_one _ _ ?_
  simp only [mayU, decide_eq_true_eq] at ha hb
  unfold above below
  rw [ht]
  have p1 : (16 - b.live) * (now - b.tick + 1) < (16 - a.live) * (now - b.tick + 1) := Int.mul_lt_mul_of_pos_right (by omega) (by omega)
  have p0 : 0 ≤ (16 - b.live) * (now - b.tick + 1) := Int.mul_nonneg (by omega) (by omega)
  have p2 : (16 - b.live) * (now - b.tick + 1) * (16 + a.live) ≤ (16 - b.live) * (now - b.tick + 1) * (16 + b.live) := Int.mul_le_mul_of_nonneg_left (by omega) p0
  have p3 : (16 - b.live) * (now - b.tick + 1) * (16 + b.live) < (16 - a.live) * (now - b.tick + 1) * (16 + b.live) := Int.mul_lt_mul_of_pos_right p1 (by omega)
  omega
theorem gainC_tick (a b : Use) (now : Int) (ha : mayU a now = true) (hb : mayU b now = true) (hl : a.live = b.live) (h16 : a.live ≠ 16) (ht : a.tick < b.tick) : gainC a b now = 1 := by
  simp only [gainC, ha, hb, Bool.and_self, if_true, gcmp]
  refine cmp3_one _ _ ?_
  simp only [mayU, decide_eq_true_eq] at ha hb
  unfold above below
  rw [← hl]
  refine Int.mul_lt_mul_of_pos_right (Int.mul_lt_mul_of_pos_left (by omega) (by omega)) (by omega)
end Go.Proofs.Ytcdpiedgfkebcaa
