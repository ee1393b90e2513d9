/-
  The chapter's example of media, in plain words.
-/
import Derived.Test.YtcpfehldofmipaaDoorPlain1
namespace Go.Proofs.YtcpfehldofmipaaDoor
open Go Go.SL Go.Proofs

theorem labelF_len {vol gen : Int} (h : labMay vol gen = true) : (labelF vol gen).length = 128 := sealF_len (by rw [labelN_len h]; omega)
theorem superF_len {g : Geo} (h : mayG g = true) : (superF g).length = 128 := sealF_len (by rw [superN_len h]; omega)
theorem allB_len (c : Int) : (allB c).length = 128 := by simp [allB]
/-- a device with a first block alone -/
def headD (n : Nat) (b : List Int) : DevS := ofB ((List.replicate n zeros128).set 0 b)
theorem ewf_newDev {n : Nat} (h : 0 < n) {b : List Int} (hb : b.length = 128) : ewfE (newDev n) b = 0 ∧ ewfS (newDev n) b = headD n b := by
  have := ewf_new (newDev_well n) (by simpa [newDev] using h) hb
  refine ⟨this.1, this.2.trans ?_⟩
  simp [newDev, headD, ofB]
theorem headD_len (n : Nat) (b : List Int) : (headD n b).blocks.length = n := by simp [headD, ofB]
theorem headD_get {n : Nat} {b : List Int} {k : Nat} (h0 : 0 < k) (h : k < n) : (headD n b).blocks.getD k [] = zeros128 := by
  simp only [headD, ofB, List.getD, List.getElem?_set]
  rw [if_neg (by omega)]
  simp [h]
theorem headD_zero {n : Nat} {b : List Int} {k : Nat} (h : k + 1 < n) : rdE (headD n b) ((k + 1 : Nat) : Int) = 0 ∧ clearF (rdB (headD n b) ((k + 1 : Nat) : Int)) 0 = true := by
  have hi : thereB (headD n b) ((k + 1 : Nat) : Int) = true := by simp [thereB, headD_len]; omega
  refine ⟨(ofB_well _).rdE hi, ?_⟩
  have hw : Well (headD n b) := ofB_well _
  rw [hw.rdB hi]
  have hc : curB (headD n b) ((k + 1 : Nat) : Int) = zeros128 := by
    unfold curB
    rw [show lastAt (headD n b).pend ((k + 1 : Nat) : Int) = none from rfl]
    simp only [Int.toNat_natCast, headD, ofB, List.getD, List.getElem?_set]
    simp [show k + 1 < n from h]
  rw [hc]; exact clear_zeros

theorem awake21_facts : ∃ S0 S0' S0'' S1 SD : DevS, (ewfE (newDev 49) (labelF 0 0) = 0 ∧ ewfS (newDev 49) (labelF 0 0) = S0) ∧ (ewfE (newDev 49) (labelF 1 0) = 0 ∧ ewfS (newDev 49) (labelF 1 0) = S1) ∧ (ewfE (newDev 176) (superF someG) = 0 ∧ ewfS (newDev 176) (superF someG) = SD) ∧
    (S0.blocks.length = 49 ∧ S1.blocks.length = 49 ∧ S0'.blocks.length = 49 ∧ S0''.blocks.length = 49 ∧ S0.pend.length ≤ 1000000000 ∧ S1.pend.length ≤ 1000000000 ∧ SD.pend.length ≤ 1000000000) ∧
    (∀ a0 a1 : Nat, blMR [(a0, S0), (a1, S1)] 0 = (0, 0)) ∧ (∀ a0 a1 : Nat, wrME someG SD [(a0, S0), (a1, S1)] 161 128 = 0 ∧ wrMV someG [(a0, S0), (a1, S1)] 161 (allB 7) = [(a0, S0'), (a1, S1)]) ∧ wrMD someG SD 161 (allB 7) = SD ∧
    (∀ a0 a1 : Nat, rdME someG SD [(a0, S0'), (a1, S1)] 161 = 0 ∧ rdMB someG SD [(a0, S0'), (a1, S1)] 161 = allB 7) ∧ (∀ a0 a1 : Nat, blMR [(a0, S0'), (a1, S1)] 0 = (1, 0)) ∧
    (spE S0' = 0 ∧ wfE (eraseS S0') 0 (labelF 0 1) = 0 ∧ wfS (eraseS S0') 0 (labelF 0 1) = S0'') ∧ (∀ a0 a1 : Nat, blMR [(a0, S0''), (a1, S1)] 0 = (0, 0)) := by
  have hwh : whereOf someG 161 = (⟨0, 0, 0⟩, 0) := by decide
  have hl00 : labMay 0 0 = true := by decide
  have hl10 : labMay 1 0 = true := by decide
  have hl01 : labMay 0 1 = true := by decide
  have hS0w : Well (headD 49 (labelF 0 0)) := ofB_well _
  have hth : thereB (headD 49 (labelF 0 0)) 1 = true := by simp [thereB, headD_len]
  have hw := hS0w.wrS hth (allB_len 7)
  have hS0'w : Well (wrS (headD 49 (labelF 0 0)) 1 (allB 7)) := by rw [hw]; exact hS0w.setP _
  have hblk : (wrS (headD 49 (labelF 0 0)) 1 (allB 7)).blocks = (headD 49 (labelF 0 0)).blocks := by rw [hw]
  have hpend : (wrS (headD 49 (labelF 0 0)) 1 (allB 7)).pend = [(1, allB 7)] := by rw [hw]; rfl
  have hth2 : ∀ i : Int, 0 ≤ i → i < 49 → thereB (wrS (headD 49 (labelF 0 0)) 1 (allB 7)) i = true := fun i h1 h2 => by simp [thereB, hblk, headD_len]; omega
  have hcur1 : curB (wrS (headD 49 (labelF 0 0)) 1 (allB 7)) 1 = allB 7 := by unfold curB; rw [hpend]; rfl
  have hcurk : ∀ k, 0 < k → k < 48 → curB (wrS (headD 49 (labelF 0 0)) 1 (allB 7)) ((k + 1 : Nat) : Int) = zeros128 := fun k h1 h2 => by
    unfold curB
    rw [hpend, hblk]
    have : lastAt [(1, allB 7)] ((k + 1 : Nat) : Int) = none := by
      have := lastAt_snoc [] (1, allB 7) ((k + 1 : Nat) : Int)
      rw [List.nil_append] at this
      rw [this, if_neg (by simp only; omega)]; rfl
    rw [this]
    exact headD_get (by omega) (by omega)
  have her : eraseS (wrS (headD 49 (labelF 0 0)) 1 (allB 7)) = newDev 49 := by
    rw [hS0'w.eraseS, hblk, headD_len, hw]
    simp [headD, ofB, newDev]
  have hwf := wf_well (newDev_well 49) rfl (by simp [newDev]) (labelF_len hl01) (by simp [newDev, zeros128])
  have hb0 : blankR (headD 49 (labelF 0 0)) 48 = (0, 0) := blank_zero fun k hk => headD_zero (by omega)
  have hb2 : blankR (headD 49 (labelF 0 1)) 48 = (0, 0) := blank_zero fun k hk => headD_zero (by omega)
  have e0 := ewf_newDev (n := 49) (by omega) (labelF_len hl00)
  have e1 := ewf_newDev (n := 49) (by omega) (labelF_len hl10)
  have eD := ewf_newDev (n := 176) (by omega) (superF_len (g := someG) (by decide))
  have l0 := headD_len 49 (labelF 0 0)
  have l1 := headD_len 49 (labelF 1 0)
  have l2 := headD_len 49 (labelF 0 1)
  have p0 : (headD 49 (labelF 0 0)).pend.length ≤ 1000000000 := by simp [headD, ofB]
  have p1 : (headD 49 (labelF 1 0)).pend.length ≤ 1000000000 := by simp [headD, ofB]
  have pD : (headD 176 (superF someG)).pend.length ≤ 1000000000 := by simp [headD, ofB]
  have w1 := hS0w.wrE hth
  have hr2 : wfS (eraseS (wrS (headD 49 (labelF 0 0)) 1 (allB 7))) 0 (labelF 0 1) = headD 49 (labelF 0 1) := by rw [her, hwf.2]; rfl
  have hr1 : wfE (eraseS (wrS (headD 49 (labelF 0 0)) 1 (allB 7))) 0 (labelF 0 1) = 0 := by rw [her]; exact hwf.1
  rw [← hblk] at l0
  clear hpend her hwf hw
  generalize hS' : wrS (headD 49 (labelF 0 0)) 1 (allB 7) = S0' at *
  rw [hblk] at l0
  have l0' : S0'.blocks.length = 49 := by rw [hblk]; exact l0
  generalize headD 49 (labelF 0 0) = S0 at *
  generalize headD 49 (labelF 1 0) = S1 at *
  generalize headD 49 (labelF 0 1) = S2 at *
  generalize headD 176 (superF someG) = SD at *
  have hdev : ∀ (X : DevS) (a0 a1 : Nat), devOf SD [(a0, X), (a1, S1)] 0 = X := fun X a0 a1 => by simp [devOf]
  have hidx : idxAt ⟨0, 0, 0⟩ = 1 := by decide
  have hbl : ∀ (X : DevS) (a0 a1 : Nat), X.blocks.length = 49 → blMR [(a0, X), (a1, S1)] 0 = blankR X 48 := fun X a0 a1 h => by simp [blMR, h]
  refine ⟨S0, S0', S2, S1, SD, e0, e1, eD, ⟨l0, l1, l0', l2, p0, p1, pD⟩, fun a0 a1 => ?_, fun a0 a1 => ⟨?_, ?_⟩, ?_, fun a0 a1 => ⟨?_, ?_⟩, fun a0 a1 => ?_, ⟨hS0'w.spE, hr1, hr2⟩, fun a0 a1 => ?_⟩
  · rw [hbl _ _ _ l0, hb0]
  · unfold wrME; rw [hwh, if_pos rfl]; dsimp only; rw [hdev, hidx]; exact w1
  · unfold wrMV; rw [hwh, if_pos ⟨rfl, by simp only; omega⟩]; dsimp only; rw [hidx]
    simp only [setV]
    rw [← hS']; rfl
  · unfold wrMD; rw [hwh, if_neg (by simp)]
  · unfold rdME; rw [hwh, if_pos rfl]; dsimp only; rw [hdev, hidx]
    exact hS0'w.rdE (hth2 1 (by omega) (by omega))
  · unfold rdMB; rw [hwh, if_pos rfl]; dsimp only; rw [hdev, hidx]
    exact (hS0'w.rdB (hth2 1 (by omega) (by omega))).trans hcur1
  · have h1 : blankR S0' 48 = (((0 : Nat) : Int) / 16 + 1, 0) := by
      refine blank_some (j := 0) ⟨hS0'w.rdE (hth2 _ (by omega) (by omega)), ?_⟩ (by omega) fun k h1 h2 => ⟨hS0'w.rdE (hth2 _ (by omega) (by omega)), ?_⟩
      · rw [hS0'w.rdB (hth2 _ (by omega) (by omega))]
        rw [show ((0 + 1 : Nat) : Int) = 1 from rfl, hcur1]
        exact clear_all (by decide)
      · rw [hS0'w.rdB (hth2 _ (by omega) (by omega)), hcurk k h1 h2]; exact clear_zeros
    rw [hbl _ _ _ l0', h1]; rfl
  · rw [hbl _ _ _ l2, hb2]
end Go.Proofs.YtcpfehldofmipaaDoor
