/-
  What a medium has behind a flush, a renewal, a format, an opening.
-/
import Derived.Test.YtcpfehldofmipaaDoorView1
namespace Go.Proofs.YtcpfehldofmipaaDoor
open Go Go.SL Go.Proofs

/-- nothing waits on the first n volumes -/
def cleanV (n : Nat) (vl : List (Nat × DevS)) : Prop := ∀ k (h : k < vl.length), k < n → vl[k].2.pend = []
theorem cleanV_all {vl : List (Nat × DevS)} (h : cleanV vl.length vl) : ∀ x ∈ vl, x.2.pend = [] := fun x hx => by
  obtain ⟨k, hk, rfl⟩ := List.mem_iff_getElem.1 hx
  exact h k hk hk

section
variable {g : Geo} {gens : List Int} {s : DevS} {vl : List (Nat × DevS)} {val : Int → List Int}
theorem MV.setD (h : MV g gens s vl val) {s' : DevS} (ok : s'.OK) (w : Well s') (n : s'.blocks.length = s.blocks.length) (hc : ∀ j : Int, 0 ≤ j → j < s.blocks.length → curB s' j = curB s j) : MV g gens s' vl val := by
  have hg := mayG_is h.may
  have hn := h.n
  refine ⟨h.may, ok, w, by rw [n]; exact h.n, h.okv, h.wv, h.nv, h.lv, ?_, h.hv, h.gv, ?_, h.atv⟩
  · rw [hc 0 (by omega) (by omega)]; exact h.hs
  · intro a a1 a2
    rw [hc _ (by omega) (by omega)]; exact h.atd a a1 a2
theorem MV.setVol (h : MV g gens s vl val) {k : Nat} (hk : k < vl.length) {s' : DevS} (ok : s'.OK) (w : Well s') (n : s'.blocks.length = vl[k].2.blocks.length) {gens' : List Int} {val' : Int → List Int}
    (hg' : ∀ j, j ≠ k → gens'.getD j 0 = gens.getD j 0) (h0 : curB s' 0 = labelF k (gens'.getD k 0)) (hl : labMay k (gens'.getD k 0) = true)
    (hv1 : ∀ a, a ≤ volBase g k ∨ volBase g k + g.segs * 16 < a → val' a = val a) (hv2 : ∀ i, 1 ≤ i → i ≤ g.segs * 16 → curB s' i = val' (volBase g k + i)) : MV g gens' s (vl.set k (vl[k].1, s')) val' := by
  have hg := mayG_is h.may
  have hmem := List.getElem_mem hk
  have hall : ∀ x ∈ vl.set k (vl[k].1, s'), x ∈ vl ∨ x = (vl[k].1, s') := fun x hx => List.mem_or_eq_of_mem_set hx
  refine ⟨h.may, h.ok, h.w, h.n, ?_, ?_, ?_, by rw [List.length_set]; exact h.lv, h.hs, ?_, ?_, ?_, ?_⟩
  · intro x hx
    rcases hall x hx with hx | rfl
    · exact h.okv x hx
    · exact ok
  · intro x hx
    rcases hall x hx with hx | rfl
    · exact h.wv x hx
    · exact w
  · intro x hx
    rcases hall x hx with hx | rfl
    · exact h.nv x hx
    · have := h.nv _ hmem; dsimp only; omega
  · intro j hj
    rw [List.length_set] at hj
    rw [List.getElem_set]
    by_cases hjk : k = j
    · subst hjk; rw [if_pos rfl]; exact h0
    · rw [if_neg hjk, hg' j (fun e => hjk e.symm)]; exact h.hv j hj
  · intro j hj
    rw [List.length_set] at hj
    by_cases hjk : k = j
    · subst hjk; exact hl
    · rw [hg' j (fun e => hjk e.symm)]; exact h.gv j hj
  · intro a a1 a2
    have := volBase_ge h.may k
    rw [hv1 a (by omega)]; exact h.atd a a1 a2
  · intro j hj i i1 i2
    rw [List.length_set] at hj
    rw [List.getElem_set]
    by_cases hjk : k = j
    · subst hjk; rw [if_pos rfl]; exact hv2 i i1 i2
    · rw [if_neg hjk, h.atv j hj i i1 i2]
      refine (hv1 _ ?_).symm
      have key : ∀ (a b : Nat), a < b → (a : Int) * (g.segs * 16) + g.segs * 16 ≤ (b : Int) * (g.segs * 16) := fun a b hab => by
        have : ((a : Int) + 1) * (g.segs * 16) ≤ (b : Int) * (g.segs * 16) := Int.mul_le_mul_of_nonneg_right (by omega) (by omega)
        rw [Int.add_mul] at this; omega
      unfold volBase
      rcases Nat.lt_or_ge j k with h1 | h1
      · have := key j k h1; omega
      · have := key k j (by omega); omega
theorem flS_ok {s : DevS} (h : s.OK) (w : Well s) : (flS s).OK := by rw [flS, if_pos w.spE]; exact flushS_OK h
theorem MV.flushD (h : MV g gens s vl val) : flME s vl (-1) = 0 ∧ MV g gens (flMD s (-1)) (flMV vl (-1)) val ∧ (flMD s (-1)).pend = [] ∧ flMV vl (-1) = vl := by
  have e1 : flMD s (-1) = flS s := by unfold flMD; rw [if_pos rfl]
  have e2 : flMV vl (-1) = vl := by unfold flMV; rw [if_neg (by omega)]
  have hok := flS_ok h.ok h.w
  rw [e1, e2]
  rw [h.w.flS] at hok ⊢
  refine ⟨by unfold flME; rw [if_pos rfl]; exact h.w.spE, h.setD hok (h.w.setB _ _) (by simp [execB_len]) fun j h1 h2 => curB_flush h.ok (by simp [thereB]; omega), rfl, rfl⟩
theorem MV.flushV (h : MV g gens s vl val) {k : Nat} (hk : k < vl.length) : flME s vl k = 0 ∧ MV g gens (flMD s k) (flMV vl k) val ∧ flMD s k = s ∧ (flMV vl k).length = vl.length ∧ (cleanV k vl → cleanV (k + 1) (flMV vl k)) := by
  have hmem := List.getElem_mem hk
  have hg := mayG_is h.may
  have e1 : flMD s (k : Int) = s := by unfold flMD; rw [if_neg (by omega)]
  have e2 : flMV vl (k : Int) = vl.set k (vl[k].1, flS vl[k].2) := by unfold flMV; rw [if_pos (by omega), Int.toNat_natCast, setV_set hk]
  have hok := flS_ok (h.okv _ hmem) (h.wv _ hmem)
  have hn := h.nv _ hmem
  have hfl := (h.wv _ hmem).flS
  rw [e1, e2]
  refine ⟨?_, ?_, rfl, by rw [List.length_set], ?_⟩
  · unfold flME
    rw [if_neg (by omega), if_pos (by omega)]
    simp only [Int.toNat_natCast, List.getD, List.getElem?_eq_getElem hk, Option.getD_some]
    exact (h.wv _ hmem).spE
  · rw [hfl] at hok ⊢
    have hcur : ∀ j : Int, 0 ≤ j → j < vl[k].2.blocks.length → curB { vl[k].2 with blocks := execB (fun _ => 128) vl[k].2.pend vl[k].2.blocks, pend := [] } j = curB vl[k].2 j := fun j h1 h2 => curB_flush (h.okv _ hmem) (by simp [thereB]; omega)
    refine h.setVol hk hok ((h.wv _ hmem).setB _ _) (by simp [execB_len]) (fun _ _ => rfl) ?_ (h.gv k hk) (fun _ _ => rfl) ?_
    · rw [hcur 0 (by omega) (by omega)]; exact h.hv k hk
    · intro i i1 i2
      rw [hcur i (by omega) (by omega)]; exact h.atv k hk i i1 i2
  · intro hcl j hj hjk
    rw [List.length_set] at hj
    rw [List.getElem_set]
    by_cases hjk2 : k = j
    · rw [if_pos hjk2, hfl]
    · rw [if_neg hjk2]; exact hcl j hj (by omega)
/-- the volume k has nothing any more -/
def clearV (g : Geo) (k : Nat) (val : Int → List Int) : Int → List Int := fun c => if volBase g k < c ∧ c ≤ volBase g k + g.segs * 16 then zeros128 else val c
def reS (s : DevS) (b : List Int) : DevS := { s with blocks := (List.replicate s.blocks.length zeros128).set 0 b, pend := [] }
theorem reS_ok {s : DevS} (h : s.OK) {b : List Int} (hb : b.length = 128) : (reS s b).OK := by
  refine ⟨fun l hl => ?_, fun x hx => (by simp [reS] at hx), by simpa [reS] using h.bn, h.bu⟩
  rcases List.mem_or_eq_of_mem_set hl with hl | rfl
  · rw [(List.mem_replicate.1 hl).2]; simp [zeros128]
  · exact hb
theorem curB_reS (s : DevS) (b : List Int) (h : 0 < s.blocks.length) (j : Int) (h0 : 0 ≤ j) (h1 : j < s.blocks.length) : curB (reS s b) j = if j = 0 then b else zeros128 := by
  rw [curB_clean rfl]
  simp only [reS, List.getD, List.getElem?_set]
  by_cases hj : j = 0
  · subst hj; simp [h]
  · rw [if_neg hj, if_neg (by omega)]
    simp [show j.toNat < s.blocks.length by omega]
theorem MV.renew (h : MV g gens s vl val) {k : Nat} (hk : k < vl.length) (hgl : k < gens.length) (hmax : gens.getD k 0 < 4294967295) : spE vl[k].2 = 0 ∧ wfE (eraseS vl[k].2) 0 (labelF k (gens.getD k 0 + 1)) = 0 ∧
    wfS (eraseS vl[k].2) 0 (labelF k (gens.getD k 0 + 1)) = reS vl[k].2 (labelF k (gens.getD k 0 + 1)) ∧
    MV g (gens.set k (gens.getD k 0 + 1)) s (vl.set k (vl[k].1, reS vl[k].2 (labelF k (gens.getD k 0 + 1)))) (clearV g k val) := by
  have hmem := List.getElem_mem hk
  have hg := mayG_is h.may
  have hw := h.wv _ hmem
  have hn := h.nv _ hmem
  have hlm := h.gv k hk
  have hlm' : labMay k (gens.getD k 0 + 1) = true := by
    simp only [labMay, decide_eq_true_eq] at hlm ⊢; omega
  have hb := labelF_len hlm'
  have hE : Well (eraseS vl[k].2) := by rw [hw.eraseS]; exact hw.setB _ _
  have hwf := wf_well hE (by rw [hw.eraseS]) (by rw [hw.eraseS]; simp; omega) hb (by rw [hw.eraseS]; simp [List.getD, show 0 < vl[k].2.blocks.length by omega, zeros128])
  have he : wfS (eraseS vl[k].2) 0 (labelF k (gens.getD k 0 + 1)) = reS vl[k].2 (labelF k (gens.getD k 0 + 1)) := by
    rw [hwf.2, hw.eraseS]; rfl
  refine ⟨hw.spE, hwf.1, he, ?_⟩
  have hgk : (gens.set k (gens.getD k 0 + 1)).getD k 0 = gens.getD k 0 + 1 := by simp [List.getD, hgl]
  refine h.setVol hk (reS_ok (h.okv _ hmem) hb) (hw.setB _ _) (by simp [reS]) (fun j hj => ?_) ?_ (by rw [hgk]; exact hlm') (fun a ha => ?_) (fun i i1 i2 => ?_)
  · simp only [List.getD, List.getElem?_set]; rw [if_neg (fun e => hj e.symm)]
  · rw [curB_reS _ _ (by omega) 0 (by omega) (by omega), if_pos rfl, hgk]
  · unfold clearV; rw [if_neg (by omega)]
  · rw [curB_reS _ _ (by omega) i (by omega) (by omega), if_neg (by omega)]
    unfold clearV; rw [if_pos (by omega)]
theorem newDev_curB {n : Nat} {j : Int} (h0 : 0 ≤ j) (h1 : j < n) : curB (newDev n) j = zeros128 := by
  rw [curB_clean rfl]; simp [newDev, List.getD, show j.toNat < n by omega]
/-- a new medium -/
theorem MV.format {g : Geo} (hm : mayG g = true) {N M : Nat} (hN : (N : Int) = 16 + 16 * g.disk) (hM : (M : Int) = 1 + 16 * g.segs) {vl : List (Nat × DevS)} (hvl : vl.map Prod.snd = List.replicate g.vols.toNat (newDev M)) :
    fitsF g (newDev N) vl = true ∧ ewfE (newDev N) (superF g) = 0 ∧ (∀ i (h : i < vl.length), ewfE vl[i].2 (labelF i 0) = 0) ∧
    MV g (List.replicate vl.length 0 ++ List.replicate (8 - vl.length) (-1)) (ewfS (newDev N) (superF g)) (fmV vl vl.length) (fun _ => zeros128) ∧ (ewfS (newDev N) (superF g)).pend = [] ∧ cleanV vl.length (fmV vl vl.length) := by
  have hg := mayG_is hm
  have hlen : vl.length = g.vols.toNat := by have := congrArg List.length hvl; simpa using this
  have hall : ∀ i (h : i < vl.length), vl[i].2 = newDev M := fun i h => by
    have h1 : vl[i].2 ∈ vl.map Prod.snd := List.mem_map_of_mem (List.getElem_mem h)
    rw [hvl] at h1
    exact List.eq_of_mem_replicate h1
  have hd := ewf_new (newDev_well N) (by simp [newDev]; omega) (superF_len hm)
  have hlab : ∀ i, i < vl.length → labMay i 0 = true := fun i hi => by simp only [labMay, decide_eq_true_eq]; omega
  have hv : ∀ i, i < vl.length → ewfE (newDev M) (labelF i 0) = 0 ∧ ewfS (newDev M) (labelF i 0) = reS (newDev M) (labelF i 0) := fun i hi => ewf_new (newDev_well M) (by simp [newDev]; omega) (labelF_len (hlab i hi))
  have hd2 : ewfS (newDev N) (superF g) = reS (newDev N) (superF g) := hd.2
  have hfl : (fmV vl vl.length).length = vl.length := fmV_len vl _
  have hfm : ∀ i (h : i < (fmV vl vl.length).length), ((fmV vl vl.length)[i]).2 = reS (newDev M) (labelF i 0) := fun i h => by
    have h' : i < vl.length := by omega
    simp only [fmV, List.getElem_mapIdx]
    rw [if_pos h']
    show ewfS vl[i].2 (labelF i 0) = _
    rw [hall i h', (hv i h').2]
  have hNb : (newDev N).blocks.length = N := by simp [newDev]
  have hMb : (newDev M).blocks.length = M := by simp [newDev]
  have hok : (newDev M).OK := newDev_OK (by omega)
  have hgd : ∀ k, k < vl.length → (List.replicate vl.length (0 : Int) ++ List.replicate (8 - vl.length) (-1)).getD k 0 = 0 := fun k hk => by
    simp only [List.getD, List.getElem?_append_left (show k < (List.replicate vl.length (0 : Int)).length by simpa using hk)]
    simp [hk]
  refine ⟨?_, hd.1, fun i h => by rw [hall i h]; exact (hv i h).1, ?_, by rw [hd2]; rfl, fun k h1 _ => by rw [hfm k h1]; rfl⟩
  · simp only [fitsF, Bool.and_eq_true, decide_eq_true_eq, List.all_eq_true]
    refine ⟨⟨by rw [hNb]; omega, by omega⟩, fun x hx => ?_⟩
    obtain ⟨k, hk, rfl⟩ := List.mem_iff_getElem.1 hx
    rw [hall k hk, hMb]; omega
  · have hmem : ∀ x ∈ fmV vl vl.length, ∃ i, i < vl.length ∧ x.2 = reS (newDev M) (labelF i 0) := fun x hx => by
      obtain ⟨k, hk, rfl⟩ := List.mem_iff_getElem.1 hx
      exact ⟨k, by omega, hfm k hk⟩
    rw [hd2]
    refine ⟨hm, reS_ok (newDev_OK (by omega)) (superF_len hm), (newDev_well N).setB _ _, by simp [reS, hNb]; omega, ?_, ?_, ?_, by rw [hfl]; omega, ?_, ?_, ?_, ?_, ?_⟩
    · intro x hx; obtain ⟨i, hi, e⟩ := hmem x hx; rw [e]; exact reS_ok hok (labelF_len (hlab i hi))
    · intro x hx; obtain ⟨i, hi, e⟩ := hmem x hx; rw [e]; exact (newDev_well M).setB _ _
    · intro x hx; obtain ⟨i, hi, e⟩ := hmem x hx; rw [e]; simp [reS, hMb]; omega
    · rw [curB_reS _ _ (by omega) 0 (by omega) (by omega), if_pos rfl]
    · intro k hk
      rw [hfm k hk, curB_reS _ _ (by omega) 0 (by omega) (by omega), if_pos rfl, hgd k (by omega)]
    · intro k hk; rw [hgd k (by omega)]; exact hlab k (by omega)
    · intro a a1 a2
      rw [curB_reS _ _ (by omega) _ (by omega) (by omega), if_neg (by omega)]
    · intro k hk i i1 i2
      rw [hfm k hk, curB_reS _ _ (by omega) _ (by omega) (by omega), if_neg (by omega)]
/-- what is opened -/
theorem MV.open (h : MV g gens s vl val) : openE s vl = 0 ∧ (readSuperF (rdB s 0)).1 = g ∧ (∀ k, k < vl.length → (openG vl vl.length).getD k 0 = gens.getD k 0) ∧ MV g (openG vl vl.length) s vl val := by
  have hg := mayG_is h.may
  have hn := h.n
  have hl := h.lv
  have ht : thereB s 0 = true := by simp [thereB]; omega
  have hr0 := h.w.rdE ht
  have hrb : rdB s 0 = superF g := (h.w.rdB ht).trans h.hs
  have hrs := readSuper_super h.may
  have hge : ∀ k (hk : k < vl.length), genLab k vl[k].2 = gens.getD k 0 := fun k hk => by
    have hmem := List.getElem_mem hk
    have hnv := h.nv _ hmem
    have ht : thereB vl[k].2 0 = true := by simp [thereB]; omega
    unfold genLab
    rw [if_pos ((h.wv _ hmem).rdE ht), (h.wv _ hmem).rdB ht, h.hv k hk, readLabel_label (h.gv k hk)]
    simp
  have hG : ∀ k, k < vl.length → (openG vl vl.length).getD k 0 = gens.getD k 0 := fun k hk => by
    unfold openG
    rw [List.take_length]
    simp only [List.getD]
    rw [List.getElem?_append_left (by simpa using hk)]
    simp only [List.getElem?_mapIdx, List.getElem?_eq_getElem hk, Option.map_some, Option.getD_some]
    exact hge k hk
  refine ⟨?_, by rw [hrb, hrs], hG, ?_⟩
  · unfold openE
    rw [if_neg (by omega), if_pos hr0, hrb, hrs]
    dsimp only
    rw [if_pos rfl, if_pos]
    simp only [fitsF, Bool.and_eq_true, decide_eq_true_eq, List.all_eq_true]
    exact ⟨⟨hn, hl⟩, fun x hx => h.nv x hx⟩
  · exact { h with
      hv := fun k hk => by rw [hG k hk]; exact h.hv k hk
      gv := fun k hk => by rw [hG k hk]; exact h.gv k hk }
/-- at most n wait on each device -/
def PB (n : Nat) (s : DevS) (vl : List (Nat × DevS)) : Prop := s.pend.length ≤ n ∧ ∀ x ∈ vl, x.2.pend.length ≤ n
theorem wrS_pend (s : DevS) (i : Int) (b : List Int) : (wrS s i b).pend.length ≤ s.pend.length + 1 := by
  unfold wrS
  split
  · split
    · simp [addS, spendS]
    · simp [spendS]
  · omega
theorem PB.write {n : Nat} (h : PB n s vl) (g : Geo) (a : Int) (b : List Int) : PB (n + 1) (wrMD g s a b) (wrMV g vl a b) := by
  constructor
  · unfold wrMD
    have := h.1
    split
    · have := wrS_pend s (idxAt (whereOf g a).1) b; omega
    · omega
  · intro x hx
    unfold wrMV at hx
    split at hx
    · unfold setV at hx
      obtain ⟨k, hk, rfl⟩ := List.mem_iff_getElem.1 hx
      rw [List.getElem_modify]
      rw [List.length_modify] at hk
      have := h.2 _ (List.getElem_mem hk)
      split
      · have := wrS_pend vl[k].2 (idxAt (whereOf g a).1) b; dsimp only; omega
      · omega
    · have := h.2 x hx; omega
end
end Go.Proofs.YtcpfehldofmipaaDoor
