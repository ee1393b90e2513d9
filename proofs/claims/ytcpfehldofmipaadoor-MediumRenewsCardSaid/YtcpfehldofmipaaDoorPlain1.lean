/-
  Devices that are well: what they come to.
-/
import Derived.Test.YtcpfehldofmipaaDoorHand2
namespace Go.Proofs.YtcpfehldofmipaaDoor
open Go Go.SL Go.Proofs

/-- nothing fails here -/
structure Well (s : DevS) : Prop where
  bu : s.budget = -1
  po : s.power = true
  mo : s.mounted = true
  fa : ∀ i, s.faults i = 0
theorem Well.spE {s : DevS} (h : Well s) : spE s = 0 := by simp [Go.Proofs.YtcpfehldofmipaaDoor.spE, spendE, h.bu, h.po, h.mo]
theorem Well.spendS {s : DevS} (h : Well s) : spendS s = s := by
  obtain ⟨bs, p, fl, bu, po, mo⟩ := s
  obtain ⟨rfl, rfl, rfl, _⟩ := h
  simp [Go.Proofs.YtcpfehldofmipaaDoor.spendS, spendN, spendP]
theorem Well.rdE {s : DevS} (h : Well s) {i : Int} (hi : thereB s i = true) : rdE s i = 0 := by
  have : bAnd .i64 0 1 = 0 := by decide
  simp [Go.Proofs.YtcpfehldofmipaaDoor.rdE, hi, h.po, h.mo, h.fa, this]
theorem Well.rdB {s : DevS} (h : Well s) {i : Int} (hi : thereB s i = true) : rdB s i = curB s i := by simp [Go.Proofs.YtcpfehldofmipaaDoor.rdB, h.rdE hi]
theorem Well.wrE {s : DevS} (h : Well s) {i : Int} (hi : thereB s i = true) : wrE s i 128 = 0 := by
  have : bAnd .i64 0 2 = 0 := by decide
  simp [Go.Proofs.YtcpfehldofmipaaDoor.wrE, hi, h.spE, h.fa, this]
theorem Well.wrS {s : DevS} (h : Well s) {i : Int} (hi : thereB s i = true) {b : List Int} (hb : b.length = 128) : wrS s i b = { s with pend := s.pend ++ [(i.toNat, b)] } := by
  rw [Go.Proofs.YtcpfehldofmipaaDoor.wrS, if_pos ⟨hi, hb⟩, hb, if_pos (h.wrE hi), addS, h.spendS]
theorem Well.flS {s : DevS} (h : Well s) : flS s = { s with blocks := execB (fun _ => 128) s.pend s.blocks, pend := [] } := by
  rw [Go.Proofs.YtcpfehldofmipaaDoor.flS, if_pos h.spE, flushS, h.spendS]
theorem Well.eraseS {s : DevS} (h : Well s) : eraseS s = { s with blocks := List.replicate s.blocks.length zeros128, pend := [] } := by
  rw [Go.Proofs.YtcpfehldofmipaaDoor.eraseS, h.spendS]
theorem Well.setP {s : DevS} (h : Well s) (p : List (Nat × List Int)) : Well { s with pend := p } := ⟨h.bu, h.po, h.mo, h.fa⟩
theorem Well.setB {s : DevS} (h : Well s) (b : List (List Int)) (p : List (Nat × List Int)) : Well { s with blocks := b, pend := p } := ⟨h.bu, h.po, h.mo, h.fa⟩
theorem newDev_well (n : Nat) : Well (newDev n) := ⟨rfl, rfl, rfl, fun _ => rfl⟩

/-- the device that holds these blocks, and nothing waits -/
def ofB (bs : List (List Int)) : DevS := ⟨bs, [], fun _ => 0, -1, true, true⟩
theorem ofB_well (bs : List (List Int)) : Well (ofB bs) := ⟨rfl, rfl, rfl, fun _ => rfl⟩
theorem newDev_ofB (n : Nat) : newDev n = ofB (List.replicate n zeros128) := rfl
theorem cut128_128 : cut128 128 = 128 := by decide
theorem wf_well {s : DevS} (h : Well s) (hp : s.pend = []) (h0 : 0 < s.blocks.length) {b : List Int} (hb : b.length = 128) (hall : (s.blocks.getD 0 []).length = 128) :
    wfE s 0 b = 0 ∧ wfS s 0 b = { s with blocks := s.blocks.set 0 b, pend := [] } := by
  have hi : thereB s 0 = true := by simp [thereB]; omega
  have hw := h.wrS hi hb
  have hwell : Well (wrS s 0 b) := by rw [hw]; exact h.setP _
  unfold wfE wfS
  rw [hb, if_pos (h.wrE hi), if_pos (h.wrE hi)]
  refine ⟨hwell.spE, ?_⟩
  rw [hwell.flS, hw, hp]
  simp only [List.nil_append, execB, List.zipIdx_cons, List.zipIdx_nil, List.foldl_cons, List.foldl_nil, wr1, cut128_128]
  have h1 : b.take 128 = b := List.take_of_length_le (by omega)
  have h2 : (s.blocks.getD 0 []).drop 128 = [] := List.drop_of_length_le (by omega)
  show { s with blocks := s.blocks.set (Int.toNat 0) (b.take 128 ++ (s.blocks.getD (Int.toNat 0) []).drop 128), pend := [] } = _
  rw [show Int.toNat 0 = 0 from rfl, h1, h2, List.append_nil]
theorem ewf_new {s : DevS} (h : Well s) (h0 : 0 < s.blocks.length) {b : List Int} (hb : b.length = 128) :
    ewfE s b = 0 ∧ ewfS s b = { s with blocks := (List.replicate s.blocks.length zeros128).set 0 b, pend := [] } := by
  have hw := wf_well (s := eraseS s) (by rw [h.eraseS]; exact h.setB _ _) (by rw [h.eraseS]) (by rw [h.eraseS]; simpa using h0) hb (by rw [h.eraseS]; simp [List.getD, h0, zeros128])
  unfold ewfE ewfS
  rw [if_pos h.spE, if_pos h.spE]
  refine ⟨hw.1, hw.2.trans ?_⟩
  rw [h.eraseS]

theorem blank_zero {s : DevS} : ∀ {n : Nat}, (∀ k < n, rdE s ((k + 1 : Nat) : Int) = 0 ∧ clearF (rdB s ((k + 1 : Nat) : Int)) 0 = true) → blankR s n = (0, 0)
  | 0, _ => rfl
  | n + 1, h => by
    have h1 := h n (by omega)
    simp only [blankR]
    rw [if_pos h1.1, if_pos h1.2]
    exact blank_zero fun k hk => h k (by omega)
theorem blank_some {s : DevS} {j : Nat} (hj : rdE s ((j + 1 : Nat) : Int) = 0 ∧ clearF (rdB s ((j + 1 : Nat) : Int)) 0 = false) : ∀ {n : Nat}, j < n → (∀ k, j < k → k < n → rdE s ((k + 1 : Nat) : Int) = 0 ∧ clearF (rdB s ((k + 1 : Nat) : Int)) 0 = true) → blankR s n = ((j : Int) / 16 + 1, 0)
  | n + 1, hn, h => by
    simp only [blankR]
    by_cases hjn : j = n
    · subst hjn
      rw [if_pos hj.1, hj.2]; rfl
    · have h1 := h n (by omega) (by omega)
      rw [if_pos h1.1, if_pos h1.2]
      exact blank_some hj (by omega) fun k h2 h3 => h k h2 (by omega)
theorem clear_zeros : clearF zeros128 0 = true := by decide
theorem clear_all {c : Int} (h : c ≠ 0) : clearF (allB c) 0 = false := by
  simp [clearF, allB, h]
end Go.Proofs.YtcpfehldofmipaaDoor
