/-
  The order of the ranking, in plain words.
-/
import Derived.Test.YtcdpiedgfkebcaaRank2
import Derived.Test.YtcdpiedgfkebcaaSort2
namespace Go.Proofs.Ytcdpiedgfkebcaa
open Go Go.SL Go.Proofs Go.Sort

theorem frac_trans {a1 b1 a2 b2 a3 b3 : Int} (h1 : 0 < b1) (h2 : 0 < b2) (h3 : 0 < b3) :
    (a2 * b1 ≤ a1 * b2 → a3 * b2 ≤ a2 * b3 → a3 * b1 ≤ a1 * b3) ∧ (a2 * b1 < a1 * b2 → a3 * b2 ≤ a2 * b3 → a3 * b1 < a1 * b3) ∧ (a2 * b1 ≤ a1 * b2 → a3 * b2 < a2 * b3 → a3 * b1 < a1 * b3) := by
  have e1 : a2 * b1 * b3 = a2 * b3 * b1 := Int.mul_right_comm _ _ _
  have e2 : a3 * b2 * b1 = a3 * b1 * b2 := Int.mul_right_comm _ _ _
  have e3 : a1 * b2 * b3 = a1 * b3 * b2 := Int.mul_right_comm _ _ _
  refine ⟨fun p q => ?_, fun p q => ?_, fun p q => ?_⟩
  · have p' := Int.mul_le_mul_of_nonneg_right p (Int.le_of_lt h3)
    have q' := Int.mul_le_mul_of_nonneg_right q (Int.le_of_lt h1)
    exact Int.le_of_mul_le_mul_right (show a3 * b1 * b2 ≤ a1 * b3 * b2 by omega) h2
  · have p' := Int.mul_lt_mul_of_pos_right p h3
    have q' := Int.mul_le_mul_of_nonneg_right q (Int.le_of_lt h1)
    exact Int.lt_of_mul_lt_mul_right (show a3 * b1 * b2 < a1 * b3 * b2 by omega) (Int.le_of_lt h2)
  · have p' := Int.mul_le_mul_of_nonneg_right p (Int.le_of_lt h3)
    have q' := Int.mul_lt_mul_of_pos_right q h1
    exact Int.lt_of_mul_lt_mul_right (show a3 * b1 * b2 < a1 * b3 * b2 by omega) (Int.le_of_lt h2)

def rankOk (us : List Use) (now : Int) : Bool := fitsU now && us.all fun u => mayU u now
def idxOk (us : List Use) (busy : List Int) (i : Fin us.length) : Bool := !busy.contains ((i : Nat) : Int) && decide (1 ≤ us[i].live ∧ us[i].live < 15)
def gcf (us : List Use) (now : Int) (i j : Fin us.length) : Int := orL [gcmp us[j] us[i] now, cmp3 ((i : Nat) : Int) ((j : Nat) : Int)]
def leG (us : List Use) (now : Int) (i j : Fin us.length) : Bool := !(ltOf (gcf us now)) j i
def rankF (us : List Use) (busy : List Int) (now : Int) : List (Fin us.length) := ((List.finRange us.length).filter (idxOk us busy)).mergeSort (leG us now)
def rankS (us : List Use) (busy : List Int) (now : Int) : List Int := if rankOk us now then (rankF us busy now).map fun i : Fin us.length => ((i : Nat) : Int) else []

/-- i comes ahead of j -/
theorem lt_gcf (us : List Use) (now : Int) (i j : Fin us.length) : ltOf (gcf us now) i j = true ↔
    above us[j] now * below us[i] < above us[i] now * below us[j] ∨ (above us[j] now * below us[i] = above us[i] now * below us[j] ∧ i < j) := by
  have hij : (i < j) = (((i : Nat) : Int) < ((j : Nat) : Int)) := by rw [Int.ofNat_lt]; rfl
  rw [hij]
  unfold ltOf gcf gcmp cmp3
  simp only [orL]
  generalize above us[j] now * below us[i] = x
  generalize above us[i] now * below us[j] = y
  generalize ((i : Nat) : Int) = a
  generalize ((j : Nat) : Int) = b
  by_cases h1 : x < y <;> by_cases h2 : y < x <;> by_cases h3 : a < b <;> by_cases h4 : b < a <;> simp [h1, h2, h3, h4] <;> omega

theorem gcf_swo (us : List Use) (now : Int) (h : ∀ u ∈ us, mayU u now = true) : SWO (ltOf (gcf us now)) := by
  have hB : ∀ i : Fin us.length, 0 < below us[i] := fun i => by
    have := h us[i] (List.getElem_mem i.2)
    simp only [mayU, decide_eq_true_eq] at this
    unfold below; omega
  have hF : ∀ i j, ltOf (gcf us now) i j = false ↔ ¬ (above us[j] now * below us[i] < above us[i] now * below us[j] ∨ (above us[j] now * below us[i] = above us[i] now * below us[j] ∧ i < j)) := fun i j => by rw [← lt_gcf]; simp
  have hX := fun x y z : Fin us.length => frac_trans (a1 := above us[x] now) (a2 := above us[y] now) (a3 := above us[z] now) (hB x) (hB y) (hB z)
  refine ⟨fun x => ?_, fun x y z => ?_, fun x y z => ?_⟩
  · rw [hF]; omega
  · have g1 := hX x y z
    simp only [lt_gcf]
    omega
  · have g1 := hX z y x
    simp only [hF]
    omega
theorem gcf_total (us : List Use) (now : Int) (x y : Fin us.length) : ltOf (gcf us now) x y = false → ltOf (gcf us now) y x = false → x = y := by
  have hF : ∀ i j, ltOf (gcf us now) i j = false ↔ ¬ (above us[j] now * below us[i] < above us[i] now * below us[j] ∨ (above us[j] now * below us[i] = above us[i] now * below us[j] ∧ i < j)) := fun i j => by rw [← lt_gcf]; simp
  simp only [hF]
  intro h1 h2
  omega
end Go.Proofs.Ytcdpiedgfkebcaa
