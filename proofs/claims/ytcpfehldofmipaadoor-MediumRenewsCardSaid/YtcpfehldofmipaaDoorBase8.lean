/-
  OWN BASE, PART 8: structs and slices that are built out of their parts.
-/
import Derived.Test.YtcpfehldofmipaaDoorBase7
namespace Go.SL
open Go

def lsets (l : List Value) (off : Nat) : List Value → List Value
  | [] => l
  | v :: r => lsets (lset l off v) (off + 1) r
theorem lsets_wrs : ∀ (r l : List Value) (off : Nat), (lsets l off r).toArray = wrs l.toArray off r
  | [], _, _ => rfl
  | v :: r, l, off => by
    rw [lsets, wrs, lsets_wrs r, lset_eq]
    congr 1; apply Array.ext'; simp
theorem length_lsets : ∀ (r l : List Value) (off : Nat), (lsets l off r).length = l.length
  | [], _, _ => rfl
  | v :: r, l, off => by rw [lsets, length_lsets r, lset_eq, List.length_set]
theorem fold_wrs : ∀ (l : List Value) (d off : Nat) (a : Array Value), (l.zipIdx d).foldl (fun cs (x : Value × Nat) => cs.setIfInBounds (off + x.2) x.1) a = wrs a (off + d) l
  | [], _, _, _ => rfl
  | v :: r, d, off, a => by
    simp only [List.zipIdx_cons, List.foldl_cons, wrs]
    exact fold_wrs r (d + 1) off _
theorem fold_wrs' (c a : Array Value) (off : Nat) : c.zipIdx.foldl (fun cs (x : Value × Nat) => cs.setIfInBounds (off + x.2) x.1) a = wrs a off c.toList := by
  rw [← Array.foldl_toList, Array.toList_zipIdx]
  exact fold_wrs c.toList 0 off a

def nth : List (Nat × Nat) → Nat → Option (Nat × Nat)
  | [], _ => none
  | x :: _, 0 => some x
  | _ :: r, n + 1 => nth r n
theorem nth_eq : ∀ (l : List (Nat × Nat)) (n : Nat), nth l n = l[n]?
  | [], _ => by simp [nth]
  | _ :: _, 0 => by simp [nth]
  | _ :: r, n + 1 => by simp [nth, nth_eq r n]
def fillL (place : List (Nat × Nat)) (l : List Value) : List (Nat × Value) → Option (List Value)
  | [] => some l
  | (i, v) :: r =>
    match nth place i with
    | none => none
    | some (off, size) =>
      match Nat.beq v.cells.toList.length size && Nat.ble (off + size) l.length with
      | true => fillL place (lsets l off v.cells.toList) r
      | false => none
theorem fillL_fill {pl : Array (Nat × Nat)} : ∀ (ps : List (Nat × Value)) (l l' : List Value), fillL pl.toList l ps = some l' → Instr.fill (pl[·]?) l.toArray ps = some l'.toArray
  | [], l, l', h => by simp only [fillL, Option.some.injEq] at h; simp [Instr.fill, h]
  | (i, v) :: r, l, l', h => by
    simp only [fillL, nth_eq, Array.getElem?_toList] at h
    split at h
    · cases h
    · rename_i off size hp
      split at h
      · rename_i hb
        simp only [Bool.and_eq_true, Nat.beq_eq, Nat.ble_eq, Array.length_toList] at hb
        have h1 := fillL_fill r _ _ h
        simp only [Instr.fill, hp]
        rw [if_neg (by simp [hb.1]; omega), fold_wrs', ← lsets_wrs]
        exact h1
      · cases h

theorem wrs_mid : ∀ (l d a s : List Value), a.length = l.length → wrs (d ++ a ++ s).toArray d.length l = (d ++ l ++ s).toArray
  | [], d, a, s, h => by
    obtain rfl := List.eq_nil_of_length_eq_zero h
    simp [wrs]
  | v :: r, d, u :: a', s, h => by
    simp only [wrs]
    have h1 : (d ++ u :: a' ++ s).toArray.setIfInBounds d.length v = ((d ++ [v]) ++ a' ++ s).toArray := by apply Array.ext'; simp
    rw [h1, show d.length + 1 = (d ++ [v]).length by simp, wrs_mid r (d ++ [v]) a' s (by simpa using h)]
    simp

/-- parts that stand in order -/
def inOrder : Nat → List (Nat × Value) → Bool
  | _, [] => true
  | k, (i, _) :: r => Nat.beq i k && inOrder (k + 1) r
def cellsL : List (Nat × Value) → List (Array Value)
  | [] => []
  | (_, v) :: r => v.cells :: cellsL r
theorem length_cellsL : ∀ (l : List (Nat × Value)), (cellsL l).length = l.length
  | [] => rfl
  | _ :: r => by simp [cellsL, length_cellsL r]
def sizesL (n : Nat) : List (Nat × Value) → Bool
  | [] => true
  | (_, v) :: r => Nat.beq v.cells.toList.length n && sizesL n r
theorem sizesL_mem {n : Nat} : ∀ {l : List (Nat × Value)}, sizesL n l = true → ∀ x ∈ cellsL l, x.size = n
  | [], _, x, hx => by simp [cellsL] at hx
  | (_, v) :: r, h, x, hx => by
    simp only [sizesL, Bool.and_eq_true, Nat.beq_eq, Array.length_toList] at h
    rcases List.mem_cons.1 (show x ∈ v.cells :: cellsL r from hx) with rfl | hx
    · exact h.1
    · exact sizesL_mem h.2 x hx
theorem fill_els {n : Nat} : ∀ (vs : List (Nat × Value)) (k : Nat) (d a : List Value), d.length = k * n → a.length = vs.length * n → inOrder k vs = true → sizesL n vs = true →
    Instr.fill (fun i => some (i * n, n)) (d ++ a).toArray vs = some (d ++ flat (cellsL vs)).toArray
  | [], k, d, a, _, ha, _, _ => by
    obtain rfl : a = [] := List.eq_nil_of_length_eq_zero (by simpa using ha)
    simp [Instr.fill, cellsL, flat]
  | (i, v) :: r, k, d, a, hd, ha, ho, hs => by
    simp only [inOrder, Bool.and_eq_true, Nat.beq_eq] at ho
    simp only [sizesL, Bool.and_eq_true, Nat.beq_eq, Array.length_toList] at hs
    obtain ⟨rfl, ho⟩ := ho
    have ha2 : a.length = n + r.length * n := by rw [ha, List.length_cons, Nat.add_mul]; omega
    simp only [Instr.fill]
    rw [if_neg (by simp [hs.1]; omega), fold_wrs']
    have hsp : d ++ a = d ++ a.take n ++ a.drop n := by simp
    rw [← hd, hsp, wrs_mid v.cells.toList d (a.take n) (a.drop n) (by simp [hs.1]; omega)]
    rw [fill_els r (i + 1) (d ++ v.cells.toList) (a.drop n) (by simp [hs.1, hd, Nat.add_mul]) (by simp; omega) ho hs.2]
    simp [cellsL, flat]

section
variable {P : Program} {w0 : World} {nt : Nat} {L F : List HP} {env : Env} {ty : TypeId}

theorem R_buildL {t : TypeId} {ps : List (Nat × Operand)} {vs : List (Nat × Value)} {z : Value} {l : List Value} {pl : Array (Nat × Nat)} [BuildC P t pl] [ZeroC P t z] (hv : evP env ps = some vs)
    (hc : fillL pl.toList z.cells.toList vs = some l) : OpR P w0 nt L env (.build t ps.toArray) ty (.agg l.toArray) := by
  have h := fillL_fill vs _ _ hc
  exact R_build hv (by simpa using h)

theorem W_buildSliceV {t e : TypeId} {len n : Nat} {ps : List (Nat × Operand)} {vs : List (Nat × Value)} {z : Value} {els : List (Array Value)} [hu : Und P t (.slice e)] [hz : SizeC P e n] [hzz : ZeroC P e z] (hv : evP env ps = some vs)
    (hlt : Nat.ble (len * n) 16777216 = true) (hn : Nat.beq (len * n) 0 = false) (hl : Nat.beq vs.length len = true) (ho : inOrder 0 vs = true) (hs : sizesL n vs = true) (he : cellsL vs = els) :
    OpW P w0 nt L env (.buildSlice t len ps.toArray) ty (fun u L' => ∃ b, u = .slice (some ⟨b, 0, none⟩) len len ∧ L' = vec e n els (.slice (some ⟨b, 0, none⟩) len len) :: L ∧ SlOK (some ⟨b, 0, none⟩) len len ∧ Fact' (els.length = len)) := .mk fun o ho' hty a hr w hsat => by
  subst he
  have hl' : vs.length = len := by simpa using hl
  have hfill := fill_els (n := n) vs 0 [] ((Array.range (len * n)).map (z.cells[· % z.cells.size]!)).toList (by simp) (by simp [hl']) ho hs
  simp only [List.nil_append, Array.toArray_toList] at hfill
  obtain ⟨u, w', L', h1, h2, b, rfl, rfl⟩ := (W_buildSlice (P := P) (w0 := w0) (nt := nt) (L := L) (ty := ty) (t := t) hv hlt hn hfill).h o ho' hty a hr w hsat
  have hsz := sizesL_mem hs
  have hlen : (cellsL vs).length = len := by rw [length_cellsL, hl']
  have hbd : len ≤ 16777216 := by
    have h0 : len * n ≤ 16777216 := by simpa using hlt
    have h1 : len * n ≠ 0 := ne_of_nbeq hn
    rcases Nat.eq_zero_or_pos n with rfl | hn0
    · simp at h1
    · exact Nat.le_trans (Nat.le_mul_of_pos_right _ hn0) h0
  refine ⟨_, w', _, h1, h2.ent (Ent.vec_close hsz (by omega) hlen (Nat.le_refl _) (by unfold maxLen; omega) ?_ ?_), b, rfl, rfl, ⟨Nat.le_refl _, by omega, fun _ => ⟨b, 0, rfl⟩⟩, ⟨hlen⟩⟩
  · rw [List.size_toArray, flat_length hsz, hlen]
  · rw [← hlen, ← flat_length hsz]; simp
end
end Go.SL
