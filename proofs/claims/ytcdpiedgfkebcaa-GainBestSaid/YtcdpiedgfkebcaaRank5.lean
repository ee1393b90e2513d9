/-
  The document's ranking, in plain words: it is the sorted one.
-/
import Derived.Test.YtcdpiedgfkebcaaAwake2
namespace Go.Proofs.Ytcdpiedgfkebcaa
open Go Go.SL Go.Proofs Go.Sort

def insG (us : List Use) (now : Int) (i : Fin us.length) (out : List (Fin us.length)) : List (Fin us.length) := out.filter (fun k => leG us now k i) ++ [i] ++ out.filter (fun k => !leG us now k i)
def rkF (us : List Use) (busy : List Int) (now : Int) (l : List (Fin us.length)) : List (Fin us.length) := l.foldl (fun out i => if idxOk us busy i then insG us now i out else out) []

theorem rkF_snoc (us : List Use) (busy : List Int) (now : Int) (l : List (Fin us.length)) (i : Fin us.length) : rkF us busy now (l ++ [i]) = if idxOk us busy i then insG us now i (rkF us busy now l) else rkF us busy now l := by
  simp [rkF, List.foldl_append]
theorem insG_perm (us : List Use) (now : Int) (i : Fin us.length) (out : List (Fin us.length)) : (insG us now i out).Perm (i :: out) := by
  unfold insG
  rw [List.append_assoc, List.singleton_append]
  exact List.perm_middle.trans (List.Perm.cons i (List.filter_append_perm _ _))
theorem insG_sorted {us : List Use} {now : Int} (h : ∀ u ∈ us, mayU u now = true) {i : Fin us.length} {out : List (Fin us.length)} (hs : out.Pairwise fun a b => leG us now a b = true) : (insG us now i out).Pairwise fun a b => leG us now a b = true := by
  unfold insG
  rw [List.append_assoc, List.pairwise_append]
  have htot : ∀ b, leG us now b i = false → leG us now i b = true := fun b hb => by
    have := leG_total us now h b i
    simpa [hb] using this
  refine ⟨hs.filter _, ?_, ?_⟩
  · rw [List.singleton_append, List.pairwise_cons]
    refine ⟨?_, hs.filter _⟩
    intro b hb
    exact htot b (by simpa using (List.mem_filter.1 hb).2)
  · intro a ha b hb
    have h1 := (List.mem_filter.1 ha).2
    simp only [List.singleton_append, List.mem_cons, List.mem_filter] at hb
    rcases hb with rfl | ⟨_, hb⟩
    · exact h1
    · exact leG_trans us now h a i b h1 (htot b (by simpa using hb))
theorem rkF_spec {us : List Use} {busy : List Int} {now : Int} (h : ∀ u ∈ us, mayU u now = true) : ∀ g, g ≤ us.length → (rkF us busy now ((List.finRange us.length).take g)).Pairwise (fun a b => leG us now a b = true) ∧
    (rkF us busy now ((List.finRange us.length).take g)).Perm (((List.finRange us.length).take g).filter (idxOk us busy)) := by
  intro g
  induction g with
  | zero => intro _; simp [rkF]
  | succ g ih =>
    intro hg
    obtain ⟨h1, h2⟩ := ih (by omega)
    rw [finRange_take_succ (show g < us.length by omega), rkF_snoc, List.filter_append]
    cases hi : idxOk us busy ⟨g, by omega⟩
    · simp only [Bool.false_eq_true, if_false, List.filter_cons, hi, List.filter_nil, List.append_nil]
      exact ⟨h1, h2⟩
    · simp only [if_true, List.filter_cons, hi, List.filter_nil]
      refine ⟨insG_sorted h h1, (insG_perm us now _ _).trans ?_⟩
      exact (List.perm_append_singleton _ _).symm.trans (h2.append_right _)
theorem rkF_is {us : List Use} {busy : List Int} {now : Int} (h : ∀ u ∈ us, mayU u now = true) : rankF us busy now = rkF us busy now (List.finRange us.length) := by
  have hs := rkF_spec (busy := busy) h us.length (Nat.le_refl _)
  rw [List.take_of_length_le (by simp)] at hs
  exact rankF_eq h hs.1 hs.2
theorem rkF_lt {us : List Use} {busy : List Int} {now : Int} (h : ∀ u ∈ us, mayU u now = true) {g : Nat} (hg : g ≤ us.length) {k : Fin us.length} (hk : k ∈ rkF us busy now ((List.finRange us.length).take g)) : (k : Nat) < g := by
  have := (rkF_spec (busy := busy) h g hg).2.mem_iff.1 hk
  have h2 := (List.mem_filter.1 this).1
  obtain ⟨i, hi, he⟩ := List.mem_take_iff_getElem.1 h2
  simp at he hi
  subst he
  simp; omega
/-- how the document asks it -/
theorem leG_ask (us : List Use) (now : Int) {k i : Fin us.length} (hlt : (k : Nat) < i) : leG us now k i = decide (0 ≤ gcmp us[k] us[i] now) := by
  have h1 := lt_gcf us now i k
  have h2 : ¬ i < k := by intro h; have : (i : Nat) < k := h; omega
  unfold leG
  rw [Bool.eq_iff_iff]
  simp only [Bool.not_eq_true', decide_eq_true_eq]
  rw [← Bool.not_eq_true, h1]
  simp only [h2, and_false, or_false]
  unfold gcmp cmp3
  split
  · omega
  · split <;> omega
end Go.Proofs.Ytcdpiedgfkebcaa
