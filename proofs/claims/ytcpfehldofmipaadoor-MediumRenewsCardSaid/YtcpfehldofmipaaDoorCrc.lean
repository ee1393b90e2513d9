/-
  Checksums.
-/
import Derived.Test.YtcpfehldofmipaaDoorBase15
import Derived.Test.YtcpfehldofmipaaDoorFacts
namespace Go.Proofs.YtcpfehldofmipaaDoor
open Go Go.SL Go.Proofs

def halvesL : List Int := [0, 274646895, 549293790, 820201905, 1098587580, 1361435347, 1640403810, 1905808397, 2197175160, 2460548119, 2722870694, 2987750089, 3280807620, 3553878443, 3811616794, 4084100981]
def halvesC : Array Value := (halvesL.map fun z => Value.int .u32 z).toArray
/-- the table stands where the program's text lays it -/
class HalvesC (L : List HP) : Prop where
  h : ∃ T fr, Reads L 0 (.cells halvesC T fr)
instance (priority := low) HalvesC.tail {p : HP} {L : List HP} [h : HalvesC L] : HalvesC (p :: L) := ⟨let ⟨T, fr, k⟩ := h.h; ⟨T, fr, Reads.there k⟩⟩

def crcHalf (w : Int) : Int := bXor .u32 (bShr .u32 w 4) (halvesL.getD (bAnd .u32 w 15).toNat 0)
def crcByte (w z : Int) : Int := crcHalf (crcHalf (bXor .u32 w (IntKind.u32.wrap z)))
def crcW (w : Int) (l : List Int) : Int := l.foldl crcByte w
def crcSum (ls : List (List Int)) : Int := bNot .u32 (ls.foldl crcW 4294967295)

theorem and15 (w : Int) : 0 ≤ bAnd .u32 w 15 ∧ bAnd .u32 w 15 < 16 := by
  unfold bAnd
  have h : (BitVec.ofInt IntKind.u32.bits w &&& BitVec.ofInt IntKind.u32.bits 15).toNat < 16 := by
    rw [BitVec.toNat_and]
    exact Nat.lt_of_le_of_lt Nat.and_le_right (by decide)
  rw [wrap_u32_of (by omega)]
  omega

section
variable {w0 : World} {nt : Nat} {L : List HP} {env : Env} {ty : TypeId}
theorem L_halves {t : TypeId} {x : Operand} {j : Int} [AggC Tryd.prog t false] [hG : HalvesC L] (hx : evO env x = some (.pointer (some ⟨0, 0 + j.toNat * 1, none⟩))) (hj : 0 ≤ j ∧ j < 16) : OpR Tryd.prog w0 nt L env (.load t x) ty (.int .u32 (halvesL.getD j.toNat 0)) := by
  obtain ⟨T, fr, h⟩ := hG.h
  refine R_load hx h ?_
  have h1 : j.toNat < halvesL.length := by simp [halvesL]; omega
  simp only [halvesC, Nat.zero_add, Nat.mul_one]
  simp [h1]
end

structure BS where
  p : Option Addr
  n : Nat
  c : Nat
  l : List Int
def BS.cell (x : BS) : Array Value := #[.slice x.p x.n x.c]
theorem bs_get {l : List BS} {g : Nat} (h : g < l.length) : (l.map BS.cell).getD g #[] = #[.slice l[g].p l[g].n l[g].c] := by simp [h, BS.cell]
theorem u8_get {l : List Int} {g : Nat} (h : g < l.length) : (l.map u8c).getD g #[] = #[Value.int .u8 l[g]] := by simp [h, u8c]
theorem crcW_succ {w : Int} {l : List Int} {j : Nat} (h : j < l.length) : crcW w (l.take (j + 1)) = crcByte (crcW w (l.take j)) l[j] := by
  unfold crcW; rw [List.take_succ_eq_append_getElem h, List.foldl_append]; rfl

theorem crc_Sum (ps : List BS) {L : List HP} {p : Option Addr} {m cp : Nat} [HalvesC L] (hl : SlC L p 1 m cp (ps.map BS.cell)) (hb : ∀ x ∈ ps, SlC L x.p 1 x.n x.c (x.l.map u8c)) :
    Tr Tryd.prog 112 [.slice p m cp].toArray L (fun v L' => v = .int .u32 (crcSum (ps.map BS.l)) ∧ L = L') := by
  have hlen : ps.length = m := by simpa using hl.len
  have hbd := hl.bd
  refine tr_enter Tryd.func112 rfl Tryd.ntmps112 rfl fun w0 => ?_
  repeat' (first
    | refine swl_op ?_
    | (refine s1_move ?_; refine sc_r (R_move (by rfl)) (by rfl) ?_)
    | (refine s1_assign ?_; refine sc_r (R_assign (by rfl)) (by rfl) ?_)
    | (refine s1_call ?_; refine sc_r (R_len (by rfl)) (by rfl) ?_)
    | refine swl_nil ?_
    | refine sx_next ?_
    | refine sw_seq ?_
    | refine sw_region ?_
    | refine sw_block ?_
    | fail)
  refine sw_loop (γ := Nat × Int) (fun g => m - g.1) (fun g => [(8, .slice p m cp), (9, .int .i64 m), (10, .int .i64 g.1), (3, .int .u32 g.2)]) (fun _ => L) (fun g => g.1 ≤ m ∧ g.2 = ((ps.take g.1).map BS.l).foldl crcW 4294967295) (0, 4294967295) ⟨by simp, by simp⟩
    (subE.cons rfl (subE.cons rfl (subE.cons rfl (subE.cons rfl subE.nil)))) (by (repeat (first | exact Ent.refl _ | exact Ent.nil | (apply Ent.pick; focus ((repeat (first | exact Rem.here | apply Rem.there)); done)) | apply Ent.drop))) ?_
  rintro ⟨g, w⟩ ⟨hg, hw⟩
  dsimp only at hg hw ⊢
  by_cases hlt : g < m
  · obtain ⟨b1, o1, rfl⟩ := hl.ptr (by omega)
    have hl1 : g < ps.length := by omega
    have he1 := bs_get hl1
    have hx := hb ps[g] (List.getElem_mem hl1)
    have hts := List.take_succ_eq_append_getElem hl1
    generalize ps[g] = x at *
    obtain ⟨xp, xn, xc, xl⟩ := x
    dsimp only at he1 hx
    have hxl : xl.length = xn := by simpa using hx.len
    have hxb := hx.bd
    repeat' (first
    | refine swl_op ?_
    | (refine s1_move ?_; refine sc_r (R_move (by rfl)) (by rfl) ?_)
    | (refine s1_load ?_; refine sc_r (L_load_el1 (by rfl) (by infer_instance) (by omega) (by first | assumption | rfl)) (by rfl) ?_)
    | (refine s1_assign ?_; refine sc_r (R_assign (by rfl)) (by rfl) ?_)
    | (refine s1_bin ?_; refine sc_r (R_lss (by rfl) (by rfl)) (by rfl) ?_)
    | (refine s1_call ?_; refine sc_r (R_len (by rfl)) (by rfl) ?_)
    | (refine s1_indexAddr ?_; refine sc_r (R_indexAddr (by rfl) (by rfl) (by omega)) (by rfl) ?_)
    | refine swl_nil ?_
    | refine sx_next ?_
    | refine sw_seq ?_
    | refine sw_region ?_
    | refine sw_block ?_
    | refine sw_cond_pos (by rfl) (by first | assumption | omega) ?_
    | refine sw_skip ?_
    | fail)
    refine sw_loop (γ := Nat × Int) (fun j => xn - j.1) (fun j => [(8, .slice (some ⟨b1, o1, none⟩) m cp), (9, .int .i64 m), (10, .int .i64 g), (14, .slice xp xn xc), (15, .int .i64 xn), (16, .int .i64 j.1), (3, .int .u32 j.2)]) (fun _ => L) (fun j => j.1 ≤ xn ∧ j.2 = crcW w (xl.take j.1)) (0, w) ⟨by simp, by simp [crcW]⟩
      (subE.cons rfl (subE.cons rfl (subE.cons rfl (subE.cons rfl (subE.cons rfl (subE.cons rfl (subE.cons rfl subE.nil))))))) (by (repeat (first | exact Ent.refl _ | exact Ent.nil | (apply Ent.pick; focus ((repeat (first | exact Rem.here | apply Rem.there)); done)) | apply Ent.drop))) ?_
    rintro ⟨j, w1⟩ ⟨hj, hw1⟩
    dsimp only at hj hw1 ⊢
    by_cases hlt2 : j < xn
    · obtain ⟨b2, o2, rfl⟩ := hx.ptr (by omega)
      have hl2 : j < xl.length := by omega
      have he2 := u8_get hl2
      have hcw := crcW_succ (w := w) hl2
      generalize xl[j] = z at *
      repeat' (first
    | (refine s1_load ?_; refine sc_r (L_halves (by rfl) (and15 _)) (by rfl) ?_)
    | (refine s1_indexAddr ?_; refine sc_r (R_indexAddr_arr (by rfl) (by rfl) (and15 _)) (by rfl) ?_)
    | refine swl_op ?_
    | (refine s1_move ?_; refine sc_r (R_move (by rfl)) (by rfl) ?_)
    | (refine s1_load ?_; refine sc_r (L_load_el1 (by rfl) (by infer_instance) (by omega) (by first | assumption | rfl)) (by rfl) ?_)
    | (refine s1_assign ?_; refine sc_r (R_assign (by rfl)) (by rfl) ?_)
    | (refine s1_bin ?_; first | refine sc_r (R_lss (by rfl) (by rfl)) (by rfl) ?_ | refine sc_r (R_add64 (by rfl) (by rfl) (by omega)) (by rfl) ?_ | refine sc_r (R_xor (by rfl) (by rfl)) (by rfl) ?_ | refine sc_r (R_shr (by rfl) (by rfl) (by omega)) (by rfl) ?_ | refine sc_r (R_and (by rfl) (by rfl)) (by rfl) ?_)
    | (refine s1_indexAddr ?_; refine sc_r (R_indexAddr (by rfl) (by rfl) (by omega)) (by rfl) ?_)
    | (refine s1_conv ?_; refine sc_r (R_conv (by rfl)) (by rfl) ?_)
    | refine swl_nil ?_
    | refine sx_next ?_
    | refine sw_seq ?_
    | refine sw_region ?_
    | refine sw_block ?_
    | refine sx_block_normal ?_
    | refine sw_cond_pos (by rfl) (by first | assumption | omega) ?_
    | refine sw_skip ?_
    | fail)
      refine sx_back (j + 1, crcByte w1 z) (by simp only; omega) ⟨by simp only; omega, by rw [hcw, hw1]⟩ (subE.cons rfl (subE.cons rfl (subE.cons rfl (subE.cons rfl (subE.cons rfl (subE.cons rfl (subE.cons rfl subE.nil))))))) (by (repeat (first | exact Ent.refl _ | exact Ent.nil | (apply Ent.pick; focus ((repeat (first | exact Rem.here | apply Rem.there)); done)) | apply Ent.drop)))
    · repeat' (first
    | refine swl_op ?_
    | (refine s1_move ?_; refine sc_r (R_move (by rfl)) (by rfl) ?_)
    | (refine s1_bin ?_; first | refine sc_r (R_lss (by rfl) (by rfl)) (by rfl) ?_ | refine sc_r (R_add64 (by rfl) (by rfl) (by omega)) (by rfl) ?_)
    | refine swl_nil ?_
    | refine sx_next ?_
    | refine sw_seq ?_
    | refine sw_region ?_
    | refine sx_past_exit ?_
    | refine sx_block_normal ?_
    | refine sx_block_here ?_
    | refine sw_cond_neg (by rfl) (by first | assumption | omega) ?_
    | refine sw_exit ?_
    | fail)
      refine sx_back (g + 1, w1) (by simp only; omega) ⟨by simp only; omega, ?_⟩ (subE.cons rfl (subE.cons rfl (subE.cons rfl (subE.cons rfl subE.nil)))) (by (repeat (first | exact Ent.refl _ | exact Ent.nil | (apply Ent.pick; focus ((repeat (first | exact Rem.here | apply Rem.there)); done)) | apply Ent.drop)))
      dsimp only
      rw [hts, hw1, List.take_of_length_le (by omega), hw]
      simp
  · repeat' (first
    | refine swl_op ?_
    | (refine s1_move ?_; refine sc_r (R_move (by rfl)) (by rfl) ?_)
    | (refine s1_assign ?_; refine sc_r (R_assign (by rfl)) (by rfl) ?_)
    | (refine s1_bin ?_; refine sc_r (R_lss (by rfl) (by rfl)) (by rfl) ?_)
    | (refine s1_any ?_; refine sc_r (R_notb (by rfl)) (by rfl) ?_)
    | refine swl_nil ?_
    | refine sx_next ?_
    | refine sw_seq ?_
    | refine sw_region ?_
    | refine sx_past_exit ?_
    | refine sx_block_here ?_
    | refine sw_cond_neg (by rfl) (by first | assumption | omega) ?_
    | refine sw_ret ?_
    | refine sw_exit ?_
    | fail)
    refine sx_ret_of (res1 rfl (ResOne.tmp rfl)) L ⟨?_, rfl⟩ (by (repeat (first | exact Ent.refl _ | exact Ent.nil | (apply Ent.pick; focus ((repeat (first | exact Rem.here | apply Rem.there)); done)) | apply Ent.drop)))
    rw [hw, List.take_of_length_le (by omega)]; rfl

def sumB (s : Int) : List Int := [IntKind.u8.wrap (bShr .u32 s (8 * 0)), IntKind.u8.wrap (bShr .u32 s (8 * 1)), IntKind.u8.wrap (bShr .u32 s (8 * 2)), IntKind.u8.wrap (bShr .u32 s (8 * 3))]
def padF (n : Nat) (l : List Int) : List Int := l ++ List.replicate (n - l.length) 0
def sealF (l : List Int) : List Int := padF 124 l ++ sumB (crcSum [padF 124 l])
def heldF (l : List Int) : Bool := decide (l.length = 128 ∧ l.drop 124 = sumB (crcSum [l.take 124]))
theorem padF_len {n : Nat} {l : List Int} (h : l.length ≤ n) : (padF n l).length = n := by simp [padF]; omega
theorem sealF_len {l : List Int} (h : l.length ≤ 124) : (sealF l).length = 128 := by simp [sealF, padF_len h, sumB]
theorem sumB_get (s : Int) {i : Nat} (h : i < 4) : (sumB s)[i]? = some (IntKind.u8.wrap (bShr .u32 s (8 * (i : Int)))) := by
  rcases (by omega : i = 0 ∨ i = 1 ∨ i = 2 ∨ i = 3) with rfl | rfl | rfl | rfl <;> rfl
theorem held_seal {l : List Int} (h : l.length ≤ 124) : heldF (sealF l) = true := by
  have h1 := padF_len h
  simp only [heldF, sealF_len h, true_and, decide_eq_true_eq]
  unfold sealF
  rw [List.drop_append_of_le_length (by omega), List.take_append_of_le_length (by omega), List.drop_of_length_le (by omega), List.take_of_length_le (by omega)]; rfl

theorem crc_Sum1 (l : List Int) {L : List HP} {p q : Option Addr} {m cp n c : Nat} {els : List (Array Value)} [HalvesC L] (hl : SlC L p 1 m cp els) (he : els = [#[.slice q n c]]) (hb : SlC L q 1 n c (l.map u8c)) :
    Tr Tryd.prog 112 [.slice p m cp].toArray L (fun v L' => v = .int .u32 (crcSum [l]) ∧ L = L') := by
  subst he
  refine crc_Sum [⟨q, n, c, l⟩] hl (fun x hx => ?_)
  obtain rfl := List.mem_singleton.1 hx
  exact hb
theorem crc_Held (l : List Int) {L : List HP} {p : Option Addr} {n c : Nat} [HalvesC L] (hl : SlC L p 1 n c (l.map u8c)) :
    Tr Tryd.prog 102 [.slice p n c].toArray L (fun v L' => v = .bool (heldF l) ∧ L = L') := by
  have hlen : l.length = n := by simpa using hl.len
  refine tr_enter Tryd.func102 rfl Tryd.ntmps102 rfl fun w0 => ?_
  by_cases h128 : n = 128
  · subst h128
    have hle := hl.le
    have ht : SlC L p 1 124 c ((l.take 124).map u8c) := by rw [List.map_take]; exact hl.take _ (by omega)
    obtain ⟨b0, o0, rfl⟩ := hl.ptr (by omega)
    repeat' (first
    | refine swl_op ?_
    | (refine s1_move ?_; refine sc_r (R_move (by rfl)) (by rfl) ?_)
    | (refine s1_assign ?_; refine sc_r (R_assign (by rfl)) (by rfl) ?_)
    | (refine s1_bin ?_; refine sc_r (R_neq (by rfl) (by rfl)) (by rfl) ?_)
    | (refine s1_call ?_; first | (refine sc_c (by rfl) (C_call (by rfl) (by infer_instance) (by rfl) (by rfl) (crc_Sum1 (l.take 124) (by infer_instance) (by rfl) (by infer_instance))) (by rfl) ?_; rintro _ _ ⟨rfl, rfl⟩) | refine sc_r (R_len (by rfl)) (by rfl) ?_)
    | (refine s1_slice ?_; refine sc_r (R_slice_h (by rfl) (by rfl) (by omega)) (by rfl) ?_)
    | (refine s1_any ?_; (refine sc_w (by rfl) (W_buildSliceV (by rfl) (by rfl) (by rfl) (by rfl) (by rfl) (by rfl) (by rfl)) (by rfl) ?_; rintro _ _ ⟨_, rfl, rfl, _, _⟩))
    | refine swl_nil ?_
    | refine sx_next ?_
    | refine sw_seq ?_
    | refine sw_region ?_
    | refine sw_block ?_
    | refine sw_cond_false (by rfl) ?_
    | refine sw_skip ?_
    | fail)
    clear ht
    refine sw_loop (γ := Nat) (fun i => 4 - i) (fun i => [(0, .slice (some ⟨b0, o0, none⟩) 128 c), (3, .int .u32 (crcSum [l.take 124])), (12, .int .i64 i)]) (fun _ => L) (fun i => i ≤ 4 ∧ ∀ j < i, l[124 + j]? = (sumB (crcSum [l.take 124]))[j]?) 0 ⟨by omega, by simp⟩
      (subE.cons rfl (subE.cons rfl (subE.cons rfl subE.nil))) (by (repeat (first | exact Ent.refl _ | exact Ent.nil | (apply Ent.pick; focus ((repeat (first | exact Rem.here | apply Rem.there)); done)) | apply Ent.drop))) ?_
    intro i ⟨hi, hj⟩
    by_cases hlt : i < 4
    · have hl1 : 124 + i < l.length := by omega
      have he1 : (l.map u8c).getD ((124 + (i : Int)).toNat) #[] = #[Value.int .u8 l[124 + i]] := by
        rw [show (124 + (i : Int)).toNat = 124 + i by omega]; exact u8_get hl1
      have hg := sumB_get (crcSum [l.take 124]) hlt
      have hgl : l[124 + i]? = some l[124 + i] := List.getElem?_eq_getElem hl1
      generalize l[124 + i] = z at *
      repeat' (first
    | refine swl_op ?_
    | (refine s1_move ?_; refine sc_r (R_move (by rfl)) (by rfl) ?_)
    | (refine s1_load ?_; refine sc_r (L_load_el1 (by rfl) (by infer_instance) (by omega) (by first | assumption | rfl)) (by rfl) ?_)
    | (refine s1_assign ?_; refine sc_r (R_assign (by rfl)) (by rfl) ?_)
    | (refine s1_bin ?_; first | refine sc_r (R_lss (by rfl) (by rfl)) (by rfl) ?_ | refine sc_r (R_add64 (by rfl) (by rfl) (by omega)) (by rfl) ?_ | refine sc_r (R_neq (by rfl) (by rfl)) (by rfl) ?_ | refine sc_r (R_mul64 (by rfl) (by rfl) (by first | assumption | omega)) (by rfl) ?_ | refine sc_r (R_shr (by rfl) (by rfl) (by omega)) (by rfl) ?_)
    | (refine s1_indexAddr ?_; refine sc_r (R_indexAddr (by rfl) (by rfl) (by omega)) (by rfl) ?_)
    | (refine s1_conv ?_; refine sc_r (R_conv (by rfl)) (by rfl) ?_)
    | refine swl_nil ?_
    | refine sx_next ?_
    | refine sw_seq ?_
    | refine sw_region ?_
    | refine sw_block ?_
    | refine sx_past_ret ?_
    | refine sx_block_normal ?_
    | refine sx_block_ret ?_
    | refine sw_cond_pos (by rfl) (by first | assumption | omega) ?_
    | refine sw_cond_not (by rfl) (fun hp => ?_) (fun hp => ?_)
    | refine sw_ret ?_
    | refine sw_skip ?_
    | refine swh_lt (by rfl) (fun _ _ => wanted_none) ?_
    | refine swh_nil ?_
    | (refine sw_draw [(0, true), (1, true), (2, true), (3, true), (4, true), (5, true), (6, true), (7, true), (8, true), (9, true), (10, true)] follows ?_ ?_ ?_; (focus rfl); (focus (decide +kernel)))
    | fail)
      · refine sx_ret_of (res1 rfl (ResOne.tmp rfl)) L ⟨?_, rfl⟩ (by (repeat (first | exact Ent.refl _ | exact Ent.nil | (apply Ent.pick; focus ((repeat (first | exact Rem.here | apply Rem.there)); done)) | apply Ent.drop)))
        have : heldF l = false := by
          simp only [heldF, decide_eq_false_iff_not]
          rintro ⟨_, h⟩
          rw [← h, List.getElem?_drop, hgl] at hg
          exact hp (Option.some.inj hg)
        rw [this]
      · refine sx_back (i + 1) (by omega) ⟨by omega, fun j hj1 => ?_⟩ (subE.cons rfl (subE.cons rfl (subE.cons rfl subE.nil))) (by (repeat (first | exact Ent.refl _ | exact Ent.nil | (apply Ent.pick; focus ((repeat (first | exact Rem.here | apply Rem.there)); done)) | apply Ent.drop)))
        rcases Nat.lt_or_ge j i with h | h
        · exact hj j h
        · obtain rfl : j = i := by omega
          rw [hg, hgl, hp]
    · repeat' (first
    | refine swl_op ?_
    | (refine s1_assign ?_; refine sc_r (R_assign (by rfl)) (by rfl) ?_)
    | (refine s1_bin ?_; refine sc_r (R_lss (by rfl) (by rfl)) (by rfl) ?_)
    | refine swl_nil ?_
    | refine sx_next ?_
    | refine sw_seq ?_
    | refine sw_region ?_
    | refine sx_past_exit ?_
    | refine sx_block_here ?_
    | refine sw_cond_neg (by rfl) (by first | assumption | omega) ?_
    | refine sw_ret ?_
    | refine sw_exit ?_
    | fail)
      refine sx_ret_of (res1 rfl (ResOne.tmp rfl)) L ⟨?_, rfl⟩ (by (repeat (first | exact Ent.refl _ | exact Ent.nil | (apply Ent.pick; focus ((repeat (first | exact Rem.here | apply Rem.there)); done)) | apply Ent.drop)))
      have : heldF l = true := by
        simp only [heldF, decide_eq_true_eq]
        refine ⟨hlen, List.ext_getElem? fun j => ?_⟩
        rw [List.getElem?_drop]
        rcases Nat.lt_or_ge j 4 with h | h
        · exact hj j (by omega)
        · rw [List.getElem?_eq_none (by omega), List.getElem?_eq_none (by simp [sumB]; omega)]
      rw [this]
  · repeat' (first
    | refine swl_op ?_
    | (refine s1_move ?_; refine sc_r (R_move (by rfl)) (by rfl) ?_)
    | (refine s1_assign ?_; refine sc_r (R_assign (by rfl)) (by rfl) ?_)
    | (refine s1_bin ?_; refine sc_r (R_neq (by rfl) (by rfl)) (by rfl) ?_)
    | (refine s1_call ?_; refine sc_r (R_len (by rfl)) (by rfl) ?_)
    | refine swl_nil ?_
    | refine sx_next ?_
    | refine sw_seq ?_
    | refine sw_region ?_
    | refine sx_past_ret ?_
    | refine sw_cond_nneg (by rfl) (by first | assumption | omega) ?_
    | refine sw_ret ?_
    | fail)
    refine sx_ret_of (res1 rfl (ResOne.tmp rfl)) L ⟨?_, rfl⟩ (by (repeat (first | exact Ent.refl _ | exact Ent.nil | (apply Ent.pick; focus ((repeat (first | exact Rem.here | apply Rem.there)); done)) | apply Ent.drop)))
    simp [heldF]; omega

theorem seal_step {c : List Int} (hc : c.length = 124) (s : Int) {i : Nat} (hi : i < 4) :
    (c ++ ((sumB s).take i ++ List.replicate (4 - i) 0)).set ((124 + (i : Int)).toNat) (IntKind.u8.wrap (bShr .u32 s (8 * (i : Int)))) = c ++ ((sumB s).take (i + 1) ++ List.replicate (4 - (i + 1)) 0) := by
  rw [show (124 + (i : Int)).toNat = c.length + i by omega, List.set_append_right _ _ (by omega), Nat.add_sub_cancel_left]
  rcases (by omega : i = 0 ∨ i = 1 ∨ i = 2 ∨ i = 3) with rfl | rfl | rfl | rfl <;> rfl

theorem crc_Seal (l : List Int) (h124 : l.length ≤ 124) {L : List HP} {b off n c : Nat} [HalvesC L] (hl : SlC L (some ⟨b, off, none⟩) 1 n c (l.map u8c)) :
    Tr Tryd.prog 101 [.slice (some ⟨b, off, none⟩) n c].toArray L (fun v L' => ∃ s, v = .tuple #[s, .int .i64 0] ∧ L' = vec 5 1 ((sealF l).map u8c) s :: L) := by
  have hlen : l.length = n := by simpa using hl.len
  have hpl := padF_len h124
  refine tr_enter Tryd.func101 rfl Tryd.ntmps101 rfl fun w0 => ?_
  repeat' (first
    | refine swl_op ?_
    | (refine s1_move ?_; refine sc_r (R_move (by rfl)) (by rfl) ?_)
    | (refine s1_assign ?_; refine sc_r (R_assign (by rfl)) (by rfl) ?_)
    | (refine s1_bin ?_; refine sc_r (R_gtr (by rfl) (by rfl)) (by rfl) ?_)
    | (refine s1_call ?_; first | (refine sc_w (by rfl) (W_copy1 (by rfl) (by rfl) (by focus ((repeat (first | exact Rem.here | apply Rem.there)); done)) hl (by intro x hx; obtain ⟨z, _, rfl⟩ := List.mem_map.1 hx; rfl) (by intro x hx u hu; obtain ⟨z, _, rfl⟩ := List.mem_map.1 hx; obtain rfl := List.mem_singleton.1 hu; rfl) (by omega)) (by rfl) ?_; rintro _ _ ⟨rfl, rfl⟩) | refine sc_r (R_len (by rfl)) (by rfl) ?_)
    | (refine s1_slice ?_; refine sc_r (R_slice_h (by rfl) (by rfl) (by omega)) (by rfl) ?_)
    | (refine s1_any ?_; first | (refine sc_w (by rfl) (W_buildSliceV (by rfl) (by rfl) (by rfl) (by rfl) (by rfl) (by rfl) (by rfl)) (by rfl) ?_; rintro _ _ ⟨_, rfl, rfl, _, _⟩) | (refine sc_w (by rfl) (W_makeSlice (n' := 128) (c' := 128) (zc := u8c 0) (by rfl) (by rfl) (by rfl) (by rfl) (by rfl) (by omega) (by omega)) (by rfl) ?_; rintro _ _ ⟨g, rfl, hok, rfl⟩))
    | refine swl_nil ?_
    | refine sx_next ?_
    | refine sw_seq ?_
    | refine sw_region ?_
    | refine sw_cond_neg (by rfl) (by first | assumption | omega) ?_
    | refine sw_skip ?_
    | fail)
  have hz : ∀ m : Nat, List.replicate m (u8c 0) = (List.replicate m (0 : Int)).map u8c := fun m => by simp
  have hnorm : List.map u8c l ++ List.drop n (List.replicate 128 (u8c 0)) = List.map u8c (padF 124 l ++ [0, 0, 0, 0]) := by
    rw [hz, ← List.map_drop, ← List.map_append, List.drop_replicate, padF, List.append_assoc]
    rw [show ([0, 0, 0, 0] : List Int) = List.replicate 4 0 from rfl, List.replicate_append_replicate, hlen]
    congr 3; omega
  rw [hnorm]
  have hf1 : Fact' ((List.map u8c (padF 124 l ++ [0, 0, 0, 0])).length = 128) := ⟨by simp [hpl]⟩
  have hsub : ∀ (L : List HP) (h : SlC L (some ⟨g, 0, none⟩) 1 128 128 (List.map u8c (padF 124 l ++ [0, 0, 0, 0]))), SlC L (some ⟨g, 0, none⟩) 1 124 128 ((padF 124 l).map u8c) := fun L h => by
    have := h.take 124 (by omega)
    rwa [← List.map_take, List.take_append_of_le_length (by omega), List.take_of_length_le (by omega)] at this
  repeat' (first
    | refine swl_op ?_
    | (refine s1_move ?_; refine sc_r (R_move (by rfl)) (by rfl) ?_)
    | (refine s1_assign ?_; refine sc_r (R_assign (by rfl)) (by rfl) ?_)
    | (refine s1_call ?_; (refine sc_c (by rfl) (C_call (by rfl) (by infer_instance) (by rfl) (by rfl) (crc_Sum1 (padF 124 l) (by infer_instance) (by rfl) (hsub _ (by infer_instance)))) (by rfl) ?_; rintro _ _ ⟨rfl, rfl⟩))
    | refine swl_nil ?_
    | refine sx_next ?_
    | refine sw_seq ?_
    | refine sw_region ?_
    | refine sw_block ?_
    | fail)
  generalize hsum : crcSum [padF 124 l] = s
  refine sw_loop (γ := Nat) (fun i => 4 - i) (fun i => [(4, .slice (some ⟨g, 0, none⟩) 128 128), (5, .int .u32 s), (18, .int .i64 i)]) (fun i => vec 5 1 ((padF 124 l ++ ((sumB s).take i ++ List.replicate (4 - i) 0)).map u8c) (.slice (some ⟨g, 0, none⟩) 128 128) :: L) (fun i => i ≤ 4) 0 (by omega)
      (subE.cons rfl (subE.cons rfl (subE.cons rfl subE.nil))) (by (repeat (first | exact Ent.refl _ | exact Ent.nil | (apply Ent.pick; focus ((repeat (first | exact Rem.here | apply Rem.there)); done)) | apply Ent.drop))) ?_
  intro i hi
  by_cases hlt : i < 4
  · have hst := seal_step hpl s hlt
    have hli : ((124 + (i : Int)).toNat) < ((padF 124 l ++ ((sumB s).take i ++ List.replicate (4 - i) 0)).map u8c).length := by simp [hpl, sumB]; omega
    repeat' (first
    | refine swl_op ?_
    | (refine s1_move ?_; refine sc_r (R_move (by rfl)) (by rfl) ?_)
    | (refine s1_assign ?_; refine sc_r (R_assign (by rfl)) (by rfl) ?_)
    | (refine s1_bin ?_; first | refine sc_r (R_lss (by rfl) (by rfl)) (by rfl) ?_ | refine sc_r (R_add64 (by rfl) (by rfl) (by omega)) (by rfl) ?_ | refine sc_r (R_mul64 (by rfl) (by rfl) (by first | assumption | omega)) (by rfl) ?_ | refine sc_r (R_shr (by rfl) (by rfl) (by omega)) (by rfl) ?_)
    | (refine s1_indexAddr ?_; refine sc_r (R_indexAddr (by rfl) (by rfl) (by omega)) (by rfl) ?_)
    | (refine s1_store ?_; (refine sc_w (by rfl) (W_store_el1 (by rfl) (by rfl) (by focus ((repeat (first | exact Rem.here | apply Rem.there)); done)) (by rfl) hli) (by rfl) ?_; rintro _ _ ⟨rfl, rfl⟩))
    | (refine s1_conv ?_; refine sc_r (R_conv (by rfl)) (by rfl) ?_)
    | refine swl_nil ?_
    | refine sx_next ?_
    | refine sw_seq ?_
    | refine sw_region ?_
    | refine sw_block ?_
    | refine sx_block_normal ?_
    | refine sw_cond_pos (by rfl) (by first | assumption | omega) ?_
    | refine sw_skip ?_
    | fail)
    refine sx_back (i + 1) (by omega) (by omega) (subE.cons rfl (subE.cons rfl (subE.cons rfl subE.nil))) ?_
    rw [← hst, List.map_set]
    (repeat (first | exact Ent.refl _ | exact Ent.nil | (apply Ent.pick; focus ((repeat (first | exact Rem.here | apply Rem.there)); done)) | apply Ent.drop))
  · obtain rfl : i = 4 := by omega
    repeat' (first
    | refine swl_op ?_
    | (refine s1_move ?_; refine sc_r (R_move (by rfl)) (by rfl) ?_)
    | (refine s1_assign ?_; refine sc_r (R_assign (by rfl)) (by rfl) ?_)
    | (refine s1_bin ?_; refine sc_r (R_lss (by rfl) (by rfl)) (by rfl) ?_)
    | refine swl_nil ?_
    | refine sx_next ?_
    | refine sw_seq ?_
    | refine sw_region ?_
    | refine sx_past_exit ?_
    | refine sx_block_here ?_
    | refine sw_cond_false (by rfl) ?_
    | refine sw_ret ?_
    | refine sw_exit ?_
    | fail)
    refine sx_ret_of (res2 rfl (ResOne.tmp rfl) (ResOne.tmp rfl)) _ ⟨_, rfl, rfl⟩ ?_
    rw [sealF, hsum, show (sumB s).take 4 ++ List.replicate (4 - 4) 0 = sumB s from rfl]
    (repeat (first | exact Ent.refl _ | exact Ent.nil | (apply Ent.pick; focus ((repeat (first | exact Rem.here | apply Rem.there)); done)) | apply Ent.drop))
end Go.Proofs.YtcpfehldofmipaaDoor
