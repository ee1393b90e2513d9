/-
  What a medium has, address by address.
-/
import Derived.Test.YtcpfehldofmipaaDoorPlain2
import Derived.Test.YtcpfehldofmipaaDoorMed10
namespace Go.Proofs.YtcpfehldofmipaaDoor
open Go Go.SL Go.Proofs

theorem curB_add (s : DevS) (i : Nat) (b : List Int) (j : Int) : curB { s with pend := s.pend ++ [(i, b)] } j = if (i : Int) = j then b else curB s j := by
  unfold curB
  simp only [lastAt_snoc]
  split
  · rename_i k h1
    split at h1
    · obtain rfl := Option.some.inj h1
      rw [if_pos ‹_›]
      simp [List.getD]
    · rw [if_neg ‹_›]
      obtain ⟨x, hx, _⟩ := lastAt_some h1
      have hk : k < s.pend.length := (List.getElem?_eq_some_iff.1 hx).1
      rw [h1]
      simp only [List.getD, List.getElem?_append_left hk]
  · rename_i h1
    split at h1
    · cases h1
    · rw [if_neg ‹_›, h1]
theorem execB_get {bs : List (List Int)} (h : ∀ l ∈ bs, l.length = 128) : ∀ {p : List (Nat × List Int)}, (∀ x ∈ p, x.2.length = 128 ∧ x.1 < bs.length) → ∀ j : Int, 0 ≤ j → j < bs.length →
    (execB (fun _ => 128) p bs).getD j.toNat [] = match lastAt p j with | some k => (p.getD k (0, [])).2 | none => bs.getD j.toNat [] := by
  suffices H : ∀ q : List (Nat × List Int), (∀ x ∈ q.reverse, x.2.length = 128 ∧ x.1 < bs.length) → ∀ j : Int, 0 ≤ j → j < bs.length →
    (execB (fun _ => 128) q.reverse bs).getD j.toNat [] = match lastAt q.reverse j with | some k => (q.reverse.getD k (0, [])).2 | none => bs.getD j.toNat [] by
    intro p hp j h1 h2
    have := H p.reverse (by simpa using hp) j h1 h2
    rwa [List.reverse_reverse] at this
  intro q
  induction q with
  | nil => intro _ j h1 h2; simp [lastAt, execB]
  | cons x r ih =>
    intro hp j h1 h2
    rw [List.reverse_cons] at hp ⊢
    have hr : ∀ y ∈ r.reverse, y.2.length = 128 ∧ y.1 < bs.length := fun y hy => hp y (List.mem_append_left _ hy)
    have hx := hp x (by simp)
    have ih' := ih hr j h1 h2
    rw [execB_snoc, lastAt_snoc]
    have hlen := execB_len (fun _ => (128 : Int)) r.reverse bs
    have h128 := execB_128 (fun _ => (128 : Int)) h hr r.reverse.length (Nat.le_refl _)
    rw [List.take_length] at h128
    unfold wr1
    rw [cut128_128, List.take_of_length_le (by omega)]
    have hd : ((execB (fun _ => 128) r.reverse bs).getD x.1 []).drop 128 = [] := by
      apply List.drop_of_length_le
      have hl : x.1 < (execB (fun _ => 128) r.reverse bs).length := by omega
      simp only [List.getD, List.getElem?_eq_getElem hl, Option.getD_some]
      exact Nat.le_of_eq (h128 _ (List.getElem_mem hl))
    rw [hd, List.append_nil]
    by_cases hj : (x.1 : Int) = j
    · rw [if_pos hj]
      have : j.toNat = x.1 := by omega
      rw [this]
      simp [List.getD, hlen, hx.2]
    · rw [if_neg hj]
      have : x.1 ≠ j.toNat := by omega
      simp only [List.getD, List.getElem?_set, this, if_false]
      simp only [List.getD] at ih'
      rw [ih']
      rcases hla : lastAt r.reverse j with _ | k
      · rfl
      · obtain ⟨y, hy, _⟩ := lastAt_some hla
        have hk : k < r.reverse.length := (List.getElem?_eq_some_iff.1 hy).1
        simp only [List.getElem?_append_left hk]
theorem lastAt_nil (j : Int) : lastAt [] j = none := rfl
theorem curB_flush {s : DevS} (h : s.OK) {j : Int} (hj : thereB s j = true) : curB { s with blocks := execB (fun _ => 128) s.pend s.blocks, pend := [] } j = curB s j := by
  simp only [thereB, decide_eq_true_eq] at hj
  unfold curB
  rw [lastAt_nil]
  dsimp only
  rw [execB_get h.b128 h.p128 j hj.1 (by omega)]; rfl
theorem curB_clean {s : DevS} (h : s.pend = []) (j : Int) : curB s j = s.blocks.getD j.toNat [] := by
  unfold curB; rw [h]; rfl
theorem execB_zero (p : List (Nat × List Int)) (bs : List (List Int)) : execB (fun _ => 0) p bs = bs := by
  unfold execB
  generalize p.zipIdx = l
  induction l generalizing bs with
  | nil => rfl
  | cons x r ih =>
    rw [List.foldl_cons]
    have : wr1 bs x.1 0 = bs := by
      unfold wr1
      have : cut128 0 = 0 := by decide
      rw [this, List.take_zero, List.nil_append, List.drop_zero]
      by_cases hx : x.1.1 < bs.length
      · simp [List.getD, hx]
      · rw [List.set_eq_of_length_le (by omega)]
    rw [this]; exact ih bs
theorem crash_none {s : DevS} (h : Well s) : onS (crashS s []) = { s with pend := [] } := by
  obtain ⟨bs, p, fl, bu, po, mo⟩ := s
  obtain ⟨rfl, rfl, rfl, _⟩ := h
  simp only [onS, crashS, List.getD_nil, execB_zero]
theorem crash_clean {s : DevS} (h : Well s) (hp : s.pend = []) (far : List Int) : onS (crashS s far) = s := by
  obtain ⟨bs, p, fl, bu, po, mo⟩ := s
  obtain ⟨rfl, rfl, rfl, _⟩ := h
  dsimp only at hp
  subst hp
  rfl

/-- the address ahead of the first one of volume k -/
def volBase (g : Geo) (k : Nat) : Int := g.disk * 16 + k * (g.segs * 16)
theorem volBase_inj {g : Geo} {k v : Nat} {i j : Int} (hi : 1 ≤ i ∧ i ≤ g.segs * 16) (hj : 1 ≤ j ∧ j ≤ g.segs * 16) (h : volBase g k + j = volBase g v + i) : k = v ∧ j = i := by
  unfold volBase at h
  have key : ∀ (a b : Nat), a < b → (a : Int) * (g.segs * 16) + g.segs * 16 ≤ (b : Int) * (g.segs * 16) := fun a b hab => by
    have : ((a : Int) + 1) * (g.segs * 16) ≤ (b : Int) * (g.segs * 16) := Int.mul_le_mul_of_nonneg_right (by omega) (by omega)
    rw [Int.add_mul] at this; omega
  rcases Nat.lt_trichotomy k v with h1 | h1 | h1
  · have := key k v h1; omega
  · subst h1; exact ⟨rfl, by omega⟩
  · have := key v k h1; omega
theorem volBase_ge {g : Geo} (h : mayG g = true) (k : Nat) : g.disk * 16 ≤ volBase g k := by
  have := mayG_is h
  have : 0 ≤ (k : Int) * (g.segs * 16) := Int.mul_nonneg (by omega) (by omega)
  unfold volBase; omega
theorem blocksG_is {g : Geo} (h : mayG g = true) : blocksG g = g.disk * 16 + g.vols * (g.segs * 16) := by
  unfold blocksG segsG; rw [if_pos h, Int.add_mul, Int.mul_assoc]

/-- where an address lies -/
theorem where_in {g : Geo} (hm : mayG g = true) {a : Int} (h : 1 ≤ a ∧ a ≤ blocksG g) : (whereOf g a).2 = 0 ∧
    (((whereOf g a).1.vol = -1 ∧ idxAt (whereOf g a).1 = a + 15 ∧ a ≤ g.disk * 16) ∨
     ∃ k : Nat, (whereOf g a).1.vol = k ∧ (k : Int) < g.vols ∧ 1 ≤ idxAt (whereOf g a).1 ∧ idxAt (whereOf g a).1 ≤ g.segs * 16 ∧ a = volBase g k + idxAt (whereOf g a).1) := by
  have hg := mayG_is hm
  have hb := blocksG_is hm
  have hs : segOf g a = ((a - 1) / 16, 0) := by unfold segOf; rw [if_pos hm, if_pos h]
  unfold whereOf
  rw [hs]
  dsimp only
  rw [if_pos rfl]
  by_cases hlt : (a - 1) / 16 < g.disk
  · rw [if_pos hlt]
    refine ⟨rfl, .inl ⟨rfl, ?_, by omega⟩⟩
    simp only [idxAt]
    rw [if_pos (by omega)]
    omega
  · rw [if_neg hlt]
    have hq0 : 0 ≤ ((a - 1) / 16 - g.disk) / g.segs := Int.ediv_nonneg (by omega) (by omega)
    have hr0 := Int.emod_nonneg ((a - 1) / 16 - g.disk) (show g.segs ≠ 0 by omega)
    have hr1 := Int.emod_lt_of_pos ((a - 1) / 16 - g.disk) (show 0 < g.segs by omega)
    have hdm := Int.mul_ediv_add_emod ((a - 1) / 16 - g.disk) g.segs
    have hq1 : ((a - 1) / 16 - g.disk) / g.segs < g.vols := by
      apply Int.ediv_lt_of_lt_mul (by omega)
      have : a - 1 < (g.disk + g.vols * g.segs) * 16 := by rw [Int.add_mul, Int.mul_assoc]; omega
      omega
    generalize hq : ((a - 1) / 16 - g.disk) / g.segs = q at *
    generalize hr : ((a - 1) / 16 - g.disk) % g.segs = r at *
    obtain ⟨k, rfl⟩ := Int.eq_ofNat_of_zero_le hq0
    refine ⟨rfl, .inr ⟨k, rfl, hq1, ?_⟩⟩
    simp only [idxAt]
    rw [if_neg (by omega)]
    refine ⟨by omega, by omega, ?_⟩
    unfold volBase
    have e1 : (k : Int) * (g.segs * 16) = g.segs * k * 16 := by rw [Int.mul_comm g.segs k, Int.mul_assoc]
    have e2 : (a - 1) / 16 = g.disk + g.segs * k + r := by omega
    have e3 : a - 1 = 16 * ((a - 1) / 16) + (a - 1) % 16 := (Int.mul_ediv_add_emod (a - 1) 16).symm
    rw [e2] at e3
    rw [e1]
    generalize (a - 1) % 16 = o at *
    generalize g.segs * (k : Int) = m at *
    omega

/-- nothing fails; the first blocks are the chapter's; address a has (val a) -/
structure MV (g : Geo) (gens : List Int) (s : DevS) (vl : List (Nat × DevS)) (val : Int → List Int) : Prop where
  may : mayG g = true
  ok : s.OK
  w : Well s
  n : (s.blocks.length : Int) = 16 + g.disk * 16
  okv : ∀ x ∈ vl, x.2.OK
  wv : ∀ x ∈ vl, Well x.2
  nv : ∀ x ∈ vl, (x.2.blocks.length : Int) = 1 + g.segs * 16
  lv : (vl.length : Int) = g.vols
  hs : curB s 0 = superF g
  hv : ∀ k (h : k < vl.length), curB vl[k].2 0 = labelF k (gens.getD k 0)
  gv : ∀ k, k < vl.length → labMay k (gens.getD k 0) = true
  atd : ∀ a, 1 ≤ a → a ≤ g.disk * 16 → curB s (a + 15) = val a
  atv : ∀ k (h : k < vl.length) i, 1 ≤ i → i ≤ g.segs * 16 → curB vl[k].2 i = val (volBase g k + i)

def updA (val : Int → List Int) (a : Int) (b : List Int) : Int → List Int := fun c => if c = a then b else val c

section
variable {g : Geo} {gens : List Int} {s : DevS} {vl : List (Nat × DevS)} {val : Int → List Int}
theorem MV.at_ (h : MV g gens s vl val) {a : Int} (ha : 1 ≤ a ∧ a ≤ blocksG g) : (whereOf g a).2 = 0 ∧ Well (devOf s vl (whereOf g a).1.vol) ∧ (devOf s vl (whereOf g a).1.vol).OK ∧ thereB (devOf s vl (whereOf g a).1.vol) (idxAt (whereOf g a).1) = true ∧ curB (devOf s vl (whereOf g a).1.vol) (idxAt (whereOf g a).1) = val a := by
  obtain ⟨h0, ⟨h1, h2, h3⟩ | ⟨k, h1, h2, h3, h4, h5⟩⟩ := where_in h.may ha
  · have hd : devOf s vl (whereOf g a).1.vol = s := by rw [h1]; rfl
    rw [hd, h2]
    refine ⟨h0, h.w, h.ok, ?_, h.atd a ha.1 h3⟩
    have := h.n
    simp [thereB]; omega
  · have hl := h.lv
    have hk : k < vl.length := by omega
    have hd : devOf s vl (whereOf g a).1.vol = vl[k].2 := by
      rw [h1]; unfold devOf
      rw [if_neg (by omega)]
      simp [List.getD, hk]
    rw [hd]
    have hm := List.getElem_mem hk
    refine ⟨h0, h.wv _ hm, h.okv _ hm, ?_, ?_⟩
    · have := h.nv _ hm
      simp [thereB]; omega
    · rw [h.atv k hk _ h3 h4, ← h5]
theorem MV.read (h : MV g gens s vl val) {a : Int} (ha : 1 ≤ a ∧ a ≤ blocksG g) : rdME g s vl a = 0 ∧ rdMB g s vl a = val a ∧ (val a).length = 128 := by
  obtain ⟨h0, h1, h2, h3, h4⟩ := h.at_ ha
  unfold rdME rdMB
  rw [if_pos h0, if_pos h0, ← h4]
  exact ⟨h1.rdE h3, h1.rdB h3, curB_len h2 h3⟩
theorem MV.wrME (h : MV g gens s vl val) {a : Int} (ha : 1 ≤ a ∧ a ≤ blocksG g) : wrME g s vl a 128 = 0 := by
  obtain ⟨h0, h1, h2, h3, h4⟩ := h.at_ ha
  unfold Go.Proofs.YtcpfehldofmipaaDoor.wrME
  rw [if_pos h0]
  exact h1.wrE h3
theorem MV.write (h : MV g gens s vl val) {a : Int} (ha : 1 ≤ a ∧ a ≤ blocksG g) {b : List Int} (hb : b.length = 128) : MV g gens (wrMD g s a b) (wrMV g vl a b) (updA val a b) := by
  have hg := mayG_is h.may
  obtain ⟨h0, ⟨h1, h2, h3⟩ | ⟨k, h1, h2, h3, h4, h5⟩⟩ := where_in h.may ha
  · have e1 : wrMD g s a b = wrS s (a + 15) b := by unfold wrMD; rw [if_pos ⟨h0, by omega⟩, h2]
    have e2 : wrMV g vl a b = vl := by unfold wrMV; rw [if_neg (by omega)]
    have ht : thereB s (a + 15) = true := by have := h.n; simp [thereB]; omega
    have hw := h.w.wrS ht hb
    have hok := wrS_OK h.ok (a + 15) b
    rw [e1, e2]
    rw [hw] at hok ⊢
    refine ⟨h.may, hok, h.w.setP _, h.n, h.okv, h.wv, h.nv, h.lv, ?_, h.hv, h.gv, ?_, ?_⟩
    · rw [curB_add, if_neg (by omega)]; exact h.hs
    · intro c c1 c2
      rw [curB_add]
      unfold updA
      by_cases hc : c = a
      · rw [if_pos hc, if_pos (by omega)]
      · rw [if_neg hc, if_neg (by omega)]; exact h.atd c c1 c2
    · intro j hj i i1 i2
      have := volBase_ge h.may j
      unfold updA
      rw [if_neg (by omega)]; exact h.atv j hj i i1 i2
  · have hl := h.lv
    have hk : k < vl.length := by omega
    have hmem := List.getElem_mem hk
    generalize hi : idxAt (whereOf g a).1 = i at *
    have e1 : wrMD g s a b = s := by unfold wrMD; rw [if_neg (by omega)]
    have ht : thereB vl[k].2 i = true := by have := h.nv _ hmem; simp [thereB]; omega
    have hw := (h.wv _ hmem).wrS ht hb
    have hok := wrS_OK (h.okv _ hmem) i b
    have e2 : wrMV g vl a b = vl.set k (vl[k].1, { vl[k].2 with pend := vl[k].2.pend ++ [(i.toNat, b)] }) := by
      unfold wrMV
      rw [if_pos ⟨h0, by omega⟩, h1, Int.toNat_natCast, setV_set hk, hi, hw]
    rw [e1, e2]
    rw [hw] at hok
    have hall : ∀ x ∈ vl.set k (vl[k].1, { vl[k].2 with pend := vl[k].2.pend ++ [(i.toNat, b)] }), x ∈ vl ∨ x = (vl[k].1, { vl[k].2 with pend := vl[k].2.pend ++ [(i.toNat, b)] }) := fun x hx => List.mem_or_eq_of_mem_set hx
    refine ⟨h.may, h.ok, h.w, h.n, ?_, ?_, ?_, by rw [List.length_set]; exact h.lv, h.hs, ?_, ?_, ?_, ?_⟩
    · intro x hx
      rcases hall x hx with hx | rfl
      · exact h.okv x hx
      · exact hok
    · intro x hx
      rcases hall x hx with hx | rfl
      · exact h.wv x hx
      · exact (h.wv _ hmem).setP _
    · intro x hx
      rcases hall x hx with hx | rfl
      · exact h.nv x hx
      · have := h.nv _ hmem; simpa using this
    · intro j hj
      rw [List.length_set] at hj
      rw [List.getElem_set]
      by_cases hjk : k = j
      · subst hjk
        rw [if_pos rfl, curB_add, if_neg (by omega)]; exact h.hv k hk
      · rw [if_neg hjk]; exact h.hv j hj
    · intro j hj; rw [List.length_set] at hj; exact h.gv j hj
    · intro c c1 c2
      have := volBase_ge h.may k
      unfold updA
      rw [if_neg (by omega)]; exact h.atd c c1 c2
    · intro j hj c c1 c2
      rw [List.length_set] at hj
      rw [List.getElem_set]
      unfold updA
      by_cases hjk : k = j
      · subst hjk
        rw [if_pos rfl, curB_add]
        by_cases hc : i = c
        · subst hc
          rw [if_pos h5.symm, if_pos (by omega)]
        · rw [if_neg (by omega), if_neg (by omega)]; exact h.atv k hk c c1 c2
      · rw [if_neg hjk, if_neg (fun he => hjk (volBase_inj (g := g) ⟨h3, h4⟩ ⟨c1, c2⟩ (he.trans h5)).1.symm)]
        exact h.atv j hj c c1 c2
end
end Go.Proofs.YtcpfehldofmipaaDoor
