/-
  What was sealed is read again.
-/
import Derived.Test.YtcpfehldofmipaaDoorAwake21a
namespace Go.Proofs.YtcpfehldofmipaaDoor
open Go Go.SL Go.Proofs

theorem or_add {a b : Int} (ha : 0 ≤ a) (hb : 0 ≤ b ∧ b < 256) (h : a * 256 + b < 18446744073709551616) : bOr .u64 (a * 256) b = a * 256 + b := by
  obtain ⟨n, rfl⟩ := Int.eq_ofNat_of_zero_le ha
  obtain ⟨m, rfl⟩ := Int.eq_ofNat_of_zero_le hb.1
  have h1 : n * 256 + m < 18446744073709551616 := by omega
  have h2 : (BitVec.ofInt IntKind.u64.bits ((n : Int) * 256) ||| BitVec.ofInt IntKind.u64.bits (m : Int)).toNat = n * 256 + m := by
    rw [BitVec.toNat_or]
    have e1 : (BitVec.ofInt IntKind.u64.bits ((n : Int) * 256)).toNat = n * 256 := by
      rw [BitVec.toNat_ofInt]
      show (((n : Int) * 256) % ((2 ^ 64 : Nat) : Int)).toNat = _
      omega
    have e2 : (BitVec.ofInt IntKind.u64.bits (m : Int)).toNat = m := by
      rw [BitVec.toNat_ofInt]
      show ((m : Int) % ((2 ^ 64 : Nat) : Int)).toNat = _
      omega
    rw [e1, e2]
    have := Nat.two_pow_add_eq_or_of_lt (i := 8) (b := m) (by omega) n
    rw [show 2 ^ 8 * n = n * 256 by omega] at this
    exact this.symm
  unfold bOr
  rw [h2, wrap_u64_of (by omega)]
  omega
theorem getN_cons {v z : Int} {r : List Int} (hv : 0 ≤ v ∧ v < 72057594037927936) (hz : 0 ≤ z ∧ z < 256) : getN v (z :: r) = getN (v * 256 + z) r := by
  show getN (bOr .u64 (bShl .u64 v 8) (IntKind.u64.wrap z)) r = _
  have h1 : bShl .u64 v 8 = v * 256 := by
    unfold bShl
    show IntKind.u64.wrap (v * 2 ^ 8) = _
    rw [wrap_u64_of (by omega)]; omega
  rw [h1, wrap_u64_of (by omega), or_add hv.1 hz (by omega)]
theorem byte_at {v : Int} (hv : 0 ≤ v) (k : Nat) (hk : k < 8) : IntKind.u8.wrap (bShr .u64 v (8 * (k : Int))) = v / (2 ^ (8 * k) : Nat) % 256 := by
  unfold bShr
  have h1 : min (8 * (k : Int)).toNat IntKind.u64.bits = 8 * k := by show min (8 * (k : Int)).toNat 64 = _; omega
  rw [h1, Int.fdiv_eq_ediv_of_nonneg _ (Int.pow_nonneg (by omega))]
  have h2 : ((2 : Int) ^ (8 * k)) = ((2 ^ (8 * k) : Nat) : Int) := by simp
  rw [h2]
  simp [IntKind.wrap, IntKind.bits, IntKind.signed]

theorem numB1 {v : Int} (h : 0 ≤ v ∧ v < 256) : numB ⟨1, v⟩ = [v] := by
  show [IntKind.u8.wrap (bShr .u64 v (8 * (((0 : Nat) : Int))))] = _
  rw [byte_at h.1 0 (by omega)]
  congr 1; (simp <;> omega)
theorem numB2 {v : Int} (h : 0 ≤ v ∧ v < 65536) : numB ⟨2, v⟩ = [v / 256, v % 256] := by
  show [IntKind.u8.wrap (bShr .u64 v (8 * (((1 : Nat) : Int)))), IntKind.u8.wrap (bShr .u64 v (8 * (((0 : Nat) : Int))))] = _
  rw [byte_at h.1 0 (by omega), byte_at h.1 1 (by omega)]
  simp only [Nat.mul_one, Nat.mul_zero, Nat.reducePow, Int.cast_ofNat_Int]
  rw [show v / 256 % 256 = v / 256 by omega]
  simp
theorem numB4 {v : Int} (h : 0 ≤ v ∧ v < 4294967296) : numB ⟨4, v⟩ = [v / 16777216, v / 65536 % 256, v / 256 % 256, v % 256] := by
  show [IntKind.u8.wrap (bShr .u64 v (8 * (((3 : Nat) : Int)))), IntKind.u8.wrap (bShr .u64 v (8 * (((2 : Nat) : Int)))), IntKind.u8.wrap (bShr .u64 v (8 * (((1 : Nat) : Int)))), IntKind.u8.wrap (bShr .u64 v (8 * (((0 : Nat) : Int))))] = _
  rw [byte_at h.1 0 (by omega), byte_at h.1 1 (by omega), byte_at h.1 2 (by omega), byte_at h.1 3 (by omega)]
  have e0 : v / ((2 ^ (8 * 0) : Nat) : Int) % 256 = v % 256 := by simp
  have e1 : v / ((2 ^ (8 * 1) : Nat) : Int) % 256 = v / 256 % 256 := by simp
  have e2 : v / ((2 ^ (8 * 2) : Nat) : Int) % 256 = v / 65536 % 256 := by simp
  have e3 : v / ((2 ^ (8 * 3) : Nat) : Int) % 256 = v / 16777216 := by
    rw [show ((2 ^ (8 * 3) : Nat) : Int) = 16777216 from rfl]; omega
  rw [e0, e1, e2, e3]
theorem getN_nil (v : Int) : getN v [] = v := rfl
theorem getN1 {v : Int} (h : 0 ≤ v ∧ v < 256) : getN 0 [v] = v := by
  rw [getN_cons (by omega) (by omega), getN_nil]; omega
theorem getN2 {v : Int} (h : 0 ≤ v ∧ v < 65536) : getN 0 [v / 256, v % 256] = v := by
  rw [getN_cons (by omega) (by omega), getN_cons (by omega) (by omega), getN_nil]; omega
theorem getN4 {v : Int} (h : 0 ≤ v ∧ v < 4294967296) : getN 0 [v / 16777216, v / 65536 % 256, v / 256 % 256, v % 256] = v := by
  rw [getN_cons (by omega) (by omega), getN_cons (by omega) (by omega), getN_cons (by omega) (by omega), getN_cons (by omega) (by omega), getN_nil]; omega

theorem seal_take {l : List Int} (h : l.length ≤ 124) : (sealF l).take 124 = padF 124 l := by
  have := padF_len h
  unfold sealF
  rw [List.take_append_of_le_length (by omega), List.take_of_length_le (by omega)]
theorem clear_pad {l : List Int} (h : l.length ≤ 124) : clearF (padF 124 l) (l.length : Int) = true := by
  simp only [clearF, padF_len h, Bool.and_eq_true, decide_eq_true_eq, List.all_eq_true, Int.toNat_natCast]
  refine ⟨by omega, fun z hz => ?_⟩
  unfold padF at hz
  rw [List.drop_left] at hz
  exact (List.mem_replicate.1 hz).2
/-- a record that begins with a mark of four octets -/
theorem readF_seal {l : List Int} {mark : Int} {ws : List Int} {us : List Int} (h124 : l.length ≤ 124) (h4 : getN 0 ((padF 124 l).take 4) = mark) (hlen : (l.length : Int) = 4 + ws.sum) (hu : (unpackF ((padF 124 l).drop 4) ws).map IntKind.i64.wrap = us) : readF (sealF l) mark ws = (us, 0) := by
  have h1 := padF_len h124
  unfold readF
  rw [if_pos (held_seal h124), seal_take h124]
  have h2 : (sealF l).take 4 = (padF 124 l).take 4 := by
    rw [← seal_take h124, List.take_take]; rfl
  rw [h2, if_pos h4, ← hlen, if_pos (clear_pad h124), hu]

theorem packF_super {g : Geo} (h : mayG g = true) : packF (superN g) = [104, 97, 121, 109, g.disk / 256, g.disk % 256, g.lines / 256, g.lines % 256, g.vols, g.segs / 256, g.segs % 256] := by
  have hg := mayG_is h
  simp only [packF, superN, List.flatMap_cons, List.flatMap_nil]
  rw [numB4 (by omega), numB2 (v := g.disk) (by omega), numB2 (v := g.lines) (by omega), numB1 (by omega), numB2 (v := g.segs) (by omega)]
  rfl
theorem readSuper_super {g : Geo} (h : mayG g = true) : readSuperF (superF g) = (g, 0) := by
  have hg := mayG_is h
  have hp := packF_super h
  have hr : readF (superF g) 1751218541 [2, 2, 1, 2] = ([g.disk, g.lines, g.vols, g.segs], 0) := by
    unfold superF
    rw [hp]
    refine readF_seal (by simp) (show getN 0 [104, 97, 121, 109] = 1751218541 by decide) (by simp) ?_
    show [IntKind.i64.wrap (getN 0 [g.disk / 256, g.disk % 256]), IntKind.i64.wrap (getN 0 [g.lines / 256, g.lines % 256]), IntKind.i64.wrap (getN 0 [g.vols]), IntKind.i64.wrap (getN 0 [g.segs / 256, g.segs % 256])] = _
    rw [getN2 (by omega), getN2 (by omega), getN1 (by omega), getN2 (by omega), wrap_i64_of (by omega), wrap_i64_of (by omega), wrap_i64_of (by omega), wrap_i64_of (by omega)]
  unfold readSuperF
  rw [hr]
  simp [h]
theorem packF_label {vol gen : Int} (h : labMay vol gen = true) : packF (labelN vol gen) = [104, 118, 111, 108, vol, gen / 16777216, gen / 65536 % 256, gen / 256 % 256, gen % 256] := by
  simp only [labMay, decide_eq_true_eq] at h
  simp only [packF, labelN, List.flatMap_cons, List.flatMap_nil]
  rw [numB4 (by omega), numB1 (by omega), numB4 (v := gen) (by omega)]
  rfl
theorem readLabel_label {vol gen : Int} (h : labMay vol gen = true) : readLabelF (labelF vol gen) = (vol, gen, 0) := by
  have hp := packF_label h
  have h' := h
  simp only [labMay, decide_eq_true_eq] at h
  have hr : readF (labelF vol gen) 1752592236 [1, 4] = ([vol, gen], 0) := by
    unfold labelF
    rw [hp]
    refine readF_seal (by simp) (show getN 0 [104, 118, 111, 108] = 1752592236 by decide) (by simp) ?_
    show [IntKind.i64.wrap (getN 0 [vol]), IntKind.i64.wrap (getN 0 [gen / 16777216, gen / 65536 % 256, gen / 256 % 256, gen % 256])] = _
    rw [getN1 (by omega), getN4 (by omega), wrap_i64_of (by omega), wrap_i64_of (by omega)]
  unfold readLabelF
  rw [hr]
  simp [h']
theorem held_zeros : heldF zeros128 = false := by decide +kernel
theorem readSuper_zeros : (readSuperF zeros128).2 = 5 := by
  unfold readSuperF readF
  rw [held_zeros]; rfl
end Go.Proofs.YtcpfehldofmipaaDoor
