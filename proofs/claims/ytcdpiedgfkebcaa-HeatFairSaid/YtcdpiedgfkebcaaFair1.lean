/-
  What Pick answers, in plain words: it does not turn on the order of the list; its sum; its places.
-/
import Derived.Test.YtcdpiedgfkebcaaAwake1
import Derived.Test.YtcdpiedgfkebcaaBase9
namespace Go.Proofs.Ytcdpiedgfkebcaa
open Go Go.SL Go.Proofs Go.Sort

theorem mayB_iff (l : List Heat) : ∀ s : List Int, mayB l s = true ↔ (∀ x ∈ l, okH x = true ∧ x.ino ∉ s) ∧ (l.map (·.ino)).Nodup := by
  induction l with
  | nil => intro s; simp [mayB]
  | cons y l ih =>
    intro s
    simp only [mayB, Bool.and_eq_true, ih, List.map_cons, List.nodup_cons, List.mem_cons, List.mem_append, List.mem_map]
    constructor
    · rintro ⟨⟨h1, h2⟩, h3, h4⟩
      have h2' : y.ino ∉ s := by simpa using h2
      refine ⟨?_, ?_, h4⟩
      · rintro x (rfl | hx)
        · exact ⟨h1, h2'⟩
        · exact ⟨(h3 x hx).1, fun hs => (h3 x hx).2 (.inl hs)⟩
      · rintro ⟨x, hx, he⟩
        exact (h3 x hx).2 (.inr (.inl he))
    · rintro ⟨h1, h2, h3⟩
      have h2' : y.ino ∉ s := (h1 y (.inl rfl)).2
      refine ⟨⟨(h1 y (.inl rfl)).1, by simpa using h2'⟩, ?_, h3⟩
      intro x hx
      refine ⟨(h1 x (.inr hx)).1, ?_⟩
      rintro (hs | hs | hs)
      · exact (h1 x (.inr hx)).2 hs
      · exact h2 ⟨x, hx, hs⟩
      · cases hs
theorem may_perm {l m : List Heat} (h : l.Perm m) : may l = may m := by
  have key : may l = true ↔ may m = true := by
    simp only [may, mayB_iff]
    rw [(h.map (·.ino)).nodup_iff]
    constructor <;> rintro ⟨h1, h2⟩ <;> exact ⟨fun x hx => h1 x (by first | exact h.mem_iff.1 hx | exact h.mem_iff.2 hx), h2⟩
  cases h1 : may l <;> cases h2 : may m <;> simp_all
theorem leH_anti {a b : Heat} (h1 : leH a b = true) (h2 : leH b a = true) : a = b := by
  simp only [leH, Bool.not_eq_true'] at h1 h2
  exact precedes_total a b (by rw [lt_cmpH]; exact h2) (by rw [lt_cmpH]; exact h1)
theorem rc_perm (now age : Int) {l m : List Heat} (h : l.Perm m) : rc now age l = rc now age m := by
  have h1 := rc_spec now age l
  have h2 := rc_spec now age m
  exact List.Perm.eq_of_pairwise (le := fun a b => leH a b = true) (fun a b _ _ => leH_anti) h1.1 h2.1 (h1.2.trans ((h.filter _).trans h2.2.symm))
theorem coldOk_perm (now age : Int) {l m : List Heat} (h : l.Perm m) : coldOk l now age = coldOk m now age := by simp only [coldOk, may_perm h]
theorem coldS_perm (now age : Int) {l m : List Heat} (h : l.Perm m) : coldS l now age = coldS m now age := by simp only [coldS, coldOk_perm now age h, rc_perm now age h]
theorem pickOk_perm (now age need : Int) {l m : List Heat} (h : l.Perm m) : pickOk l now age need = pickOk m now age need := by simp only [pickOk, coldOk_perm now age h]
theorem pickS_perm (now age need : Int) {l m : List Heat} (h : l.Perm m) : pickS l now age need = pickS m now age need := by simp only [pickS, pickOk_perm now age need h, coldS_perm now age h]

def sumB (l : List Heat) : Int := (l.map (·.blocks)).foldr (· + ·) 0
theorem sumB_cons (x : Heat) (l : List Heat) : sumB (x :: l) = x.blocks + sumB l := rfl
theorem sumB_append (l m : List Heat) : sumB (l ++ m) = sumB l + sumB m := by
  induction l with
  | nil => simp [sumB]
  | cons x l ih => rw [List.cons_append, sumB_cons, sumB_cons, ih]; omega
theorem sumB_take_succ {l : List Heat} {g : Nat} (h : g < l.length) : sumB (l.take (g + 1)) = sumB (l.take g) + l[g].blocks := by
  rw [List.take_succ_eq_append_getElem h, sumB_append]; simp [sumB]
theorem sumB_bd {l : List Heat} (h : ∀ x ∈ l, 0 ≤ x.blocks ∧ x.blocks ≤ 2147483647) : 0 ≤ sumB l ∧ sumB l ≤ 2147483647 * l.length := by
  induction l with
  | nil => simp [sumB]
  | cons x l ih =>
    have h1 := h x (by simp)
    have h2 := ih fun y hy => h y (by simp [hy])
    rw [sumB_cons, List.length_cons]
    omega

theorem pickR_sum : ∀ (c : List Heat) (need : Int), (∀ x ∈ c, 1 ≤ x.blocks) → 0 ≤ need → sumB (pickR need c) = min need (sumB c)
  | [], need, _, h => by simp [pickR, sumB]; omega
  | x :: r, need, hb, h => by
    have h1 := hb x (by simp)
    have hnn : 0 ≤ sumB r := by
      have : ∀ l : List Heat, (∀ x ∈ l, 1 ≤ x.blocks) → 0 ≤ sumB l := by
        intro l
        induction l with
        | nil => simp [sumB]
        | cons y l ih => intro hl; have := hl y (by simp); have := ih fun z hz => hl z (by simp [hz]); rw [sumB_cons]; omega
      exact this r fun y hy => hb y (by simp [hy])
    rw [pickR]
    split
    · subst_vars; rw [sumB_cons]; simp only [sumB, List.map_nil, List.foldr_nil]
      simp only [sumB] at hnn
      omega
    · rw [sumB_cons, pickR_sum r _ (fun y hy => hb y (by simp [hy])) (by omega), sumB_cons]
      show min x.blocks need + min (need - min x.blocks need) (sumB r) = _
      omega
theorem pickR_pos : ∀ (c : List Heat) (need : Int), (∀ x ∈ c, 1 ≤ x.blocks ∧ x.blocks ≤ 2147483647) → 0 ≤ need → ∀ x ∈ pickR need c, 1 ≤ x.blocks ∧ x.blocks ≤ 2147483647
  | [], _, _, _, x, hx => by simp [pickR] at hx
  | y :: r, need, hb, h, x, hx => by
    have h1 := hb y (by simp)
    rw [pickR] at hx
    split at hx
    · simp at hx
    · rcases List.mem_cons.1 hx with rfl | hx
      · show 1 ≤ min y.blocks need ∧ min y.blocks need ≤ 2147483647
        omega
      · exact pickR_pos r _ (fun z hz => hb z (by simp [hz])) (by omega) x hx
theorem pickR_length : ∀ (c : List Heat) (need : Int), (pickR need c).length ≤ c.length
  | [], _ => by simp [pickR]
  | y :: r, need => by
    rw [pickR]
    split
    · simp
    · have := pickR_length r (need - min y.blocks need); simp; omega
theorem pickR_firm : ∀ (c : List Heat) (need : Int) (i : Nat) (h : i + 1 < (pickR need c).length) (h2 : i < c.length), (pickR need c)[i] = c[i]
  | [], _, _, h, _ => by simp [pickR] at h
  | y :: r, need, i, h, h2 => by
    have e : pickR need (y :: r) = if need = 0 then [] else ⟨y.ino, y.tick, min y.blocks need⟩ :: pickR (need - min y.blocks need) r := by rw [pickR]
    by_cases h0 : need = 0
    · rw [if_pos h0] at e; rw [e] at h; simp at h
    · rw [if_neg h0] at e
      simp only [e] at h ⊢
      match i, h, h2 with
      | 0, h, _ =>
        simp only [List.getElem_cons_zero]
        have h3 : 0 < (pickR (need - min y.blocks need) r).length := by simpa using h
        have h4 : need - min y.blocks need ≠ 0 := by
          intro hz
          rw [hz] at h3
          cases r <;> simp [pickR] at h3
        have : min y.blocks need = y.blocks := by omega
        rw [this]
      | i + 1, h, h2 =>
        simp only [List.getElem_cons_succ]
        exact pickR_firm r _ i (by simpa using h) (by simpa using h2)
end Go.Proofs.Ytcdpiedgfkebcaa
