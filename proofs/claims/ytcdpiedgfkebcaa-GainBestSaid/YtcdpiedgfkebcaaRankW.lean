/-
  What is ranked, in plain words: each once, those that may be had and no other, none gaining more than the one ahead.
-/
import Derived.Test.YtcdpiedgfkebcaaBest
import Derived.Test.YtcdpiedgfkebcaaOrder1
namespace Go.Proofs.Ytcdpiedgfkebcaa
open Go Go.SL Go.Proofs Go.Sort

theorem rank_all {us : List Use} {now : Int} (h : rankOk us now = true) : ∀ u ∈ us, mayU u now = true := by
  simp only [rankOk, Bool.and_eq_true, List.all_eq_true] at h
  exact h.2
theorem rankF_perm (us : List Use) (busy : List Int) (now : Int) : (rankF us busy now).Perm ((List.finRange us.length).filter (idxOk us busy)) := List.mergeSort_perm _ _
theorem rankF_mem (us : List Use) (busy : List Int) (now : Int) (i : Fin us.length) : i ∈ rankF us busy now ↔ idxOk us busy i = true := by
  rw [(rankF_perm us busy now).mem_iff]; simp
theorem rankF_nodup (us : List Use) (busy : List Int) (now : Int) : (rankF us busy now).Nodup := by
  rw [(rankF_perm us busy now).nodup_iff]
  exact (List.nodup_finRange _).filter _
theorem rankF_sorted {us : List Use} {busy : List Int} {now : Int} (h : ∀ u ∈ us, mayU u now = true) : (rankF us busy now).Pairwise fun a b => leG us now a b = true :=
  List.pairwise_mergeSort (leG_trans us now h) (leG_total us now h) _
/-- what comes behind gains no more -/
theorem leG_gain {us : List Use} {now : Int} (h : ∀ u ∈ us, mayU u now = true) {i j : Fin us.length} (hij : leG us now i j = true) : gainC us[j] us[i] now ≤ 0 := by
  have h1 := lt_gcf us now j i
  have hm1 := h us[j] (List.getElem_mem j.2)
  have hm2 := h us[i] (List.getElem_mem i.2)
  simp only [gainC, hm1, hm2, Bool.and_self, if_true, gcmp]
  unfold leG at hij
  simp only [Bool.not_eq_true'] at hij
  have h2 : ¬ above us[i] now * below us[j] < above us[j] now * below us[i] := fun hlt => by
    rw [h1.2 (.inl hlt)] at hij; cases hij
  have := cmp3_pos (above us[j] now * below us[i]) (above us[i] now * below us[j])
  omega

variable {us : List Use} {busy : List Int} {now : Int}
theorem rankS_is (h : rankOk us now = true) : rankS us busy now = (rankF us busy now).map fun i : Fin us.length => ((i : Nat) : Int) := by rw [rankS, h, if_pos rfl]

theorem rank_len : (rankS us busy now).length ≤ us.length := by
  unfold rankS
  split
  · rw [List.length_map, (rankF_perm us busy now).length_eq]
    exact Nat.le_trans (List.length_filter_le _ _) (by simp)
  · simp
theorem rank_at (h : rankOk us now = true) {g : Nat} (hg : g < (rankS us busy now).length) : ∃ (i : Nat) (_ : i < us.length), (rankS us busy now)[g]'hg = (i : Int) ∧ ((rankS us busy now).take g).contains (i : Int) = false := by
  simp only [rankS_is h, List.length_map] at hg ⊢
  refine ⟨(rankF us busy now)[g], (rankF us busy now)[g].2, by simp, ?_⟩
  rw [← List.map_take]
  simp only [List.contains_eq_any_beq, List.any_eq_false, List.mem_map, forall_exists_index, and_imp, forall_apply_eq_imp_iff₂, beq_iff_eq]
  intro k hk he
  have hk' : k = (rankF us busy now)[g] := Fin.ext (by omega)
  subst hk'
  obtain ⟨m, hm, he⟩ := List.mem_take_iff_getElem.1 hk
  have := (List.getElem_inj (rankF_nodup us busy now)).1 he
  omega
theorem rank_step (h : rankOk us now = true) {g i k : Nat} (hi : i < us.length) (hk : k < us.length) (hg : g + 1 < (rankS us busy now).length) (hg0 : g < (rankS us busy now).length) (e1 : (rankS us busy now)[g + 1]'hg = (i : Int)) (e2 : (rankS us busy now)[g]'hg0 = (k : Int)) : gainC us[i] us[k] now ≤ 0 := by
  simp only [rankS_is h, List.length_map, List.getElem_map] at hg e1 e2
  have h1 := (List.pairwise_iff_getElem.1 (rankF_sorted (busy := busy) (rank_all h))) g (g + 1) (by omega) hg (by omega)
  have h2 := leG_gain (rank_all h) h1
  have j1 : (rankF us busy now)[g + 1] = ⟨i, hi⟩ := Fin.ext (by simp; omega)
  have j2 : (rankF us busy now)[g] = ⟨k, hk⟩ := Fin.ext (by simp; omega)
  rw [j1, j2] at h2
  exact h2
theorem rank_mem (h : rankOk us now = true) {i : Nat} (hi : i < us.length) : (rankS us busy now).contains (i : Int) = (!busy.contains (i : Int) && decide (1 ≤ us[i].live ∧ us[i].live < 15)) := by
  rw [rankS_is h]
  have h1 := rankF_mem us busy now ⟨i, hi⟩
  have h2 : idxOk us busy ⟨i, hi⟩ = (!busy.contains (i : Int) && decide (1 ≤ us[i].live ∧ us[i].live < 15)) := rfl
  rw [← h2, Bool.eq_iff_iff, ← h1]
  simp only [List.contains_iff_mem, List.mem_map]
  constructor
  · rintro ⟨k, hk, he⟩
    have : k = ⟨i, hi⟩ := Fin.ext (by simp; omega)
    rwa [this] at hk
  · exact fun hk => ⟨_, hk, rfl⟩
theorem rank_head (h : rankOk us now = true) {i : Nat} (hi : i < us.length) (hc : (rankS us busy now).contains (i : Int) = true) : (rankS us busy now).length ≠ 0 ∧ ∃ (k : Nat) (hk : k < us.length), (rankS us busy now).headD 0 = (k : Int) ∧ gainC us[i] us[k] now ≤ 0 := by
  rw [rankS_is h] at hc ⊢
  simp only [List.contains_iff_mem, List.mem_map] at hc
  obtain ⟨j, hj, he⟩ := hc
  have hj' : j = ⟨i, hi⟩ := Fin.ext (by simp; omega)
  subst hj'
  have hs := rankF_sorted (busy := busy) (rank_all h)
  rcases hF : rankF us busy now with _ | ⟨x, r⟩
  · rw [hF] at hj; cases hj
  · rw [hF] at hj hs
    refine ⟨by simp, x, x.2, by simp, ?_⟩
    rcases List.mem_cons.1 hj with rfl | hj
    · exact Int.le_of_eq (gainC_self us[i] now)
    · exact leG_gain (rank_all h) ((List.pairwise_cons.1 hs).1 _ hj)
end Go.Proofs.Ytcdpiedgfkebcaa
