/-
  OWN BASE, PART 15: new rows, copies into them, stores of one cell, bytes as texts.
-/
import Derived.Test.YtcpfehldofmipaaDoorBase14
import Derived.Laws.MakeOwn
import Derived.Laws.CopyRow
import Derived.Laws.BytesArg
namespace Go.SL
open Go

def bNot (k : IntKind) (a : Int) : Int := bXor k (if k.signed then -1 else k.max) a
def u8c (z : Int) : Array Value := #[.int .u8 z]
instance lenOK_rep {α : Type} {x : α} {n : Nat} : Fact' ((List.replicate n x).length = n) := ⟨List.length_replicate ..⟩

section
variable {P : Program} {w0 : World} {nt : Nat} {L F : List HP} {env : Env} {ty : TypeId}

theorem R_notb {t : TypeId} {x : Operand} {k : IntKind} {a : Int} (hx : evO env x = some (.int k a)) : OpR P w0 nt L env (.unOp .xor t x) ty (.int k (bNot k a)) := .mk fun o ho _ s hr w _ => by
  simp [execOp, ho, hr.eval hx, Op.unary, Op.intBits, bNot, bXor]

theorem madeCells_is (z : Array Value) (n k : Nat) (hz : z.size = k) (hk : 0 < k) : (madeCells z (n * k)).toList = flat (List.replicate n z) := by
  apply List.ext_getElem?
  intro i
  have hl : (flat (List.replicate n z)).length = n * k := by
    rw [flat_length (k := k) (fun x hx => by rw [(List.mem_replicate.1 hx).2]; exact hz)]; simp
  by_cases hi : i < n * k
  · have hq : i / k < n := by rwa [Nat.div_lt_iff_lt_mul hk]
    have h6 := flat_el (k := k) (els := List.replicate n z) (fun x hx => by rw [(List.mem_replicate.1 hx).2]; exact hz) (i / k) (by simpa using hq)
    have h8 := congrArg (·[i % k]?) h6
    have hmod : i % k < k := Nat.mod_lt _ hk
    simp only [List.getElem?_take, hmod, if_true, List.getElem?_drop] at h8
    rw [show i / k * k + i % k = i by rw [Nat.mul_comm]; exact Nat.div_add_mod i k] at h8
    rw [h8]
    simp [madeCells, hi, hz, hq, List.getD]
    have : i % k < z.size := by omega
    simp [this]
  · rw [List.getElem?_eq_none (by simp [madeCells]; omega), List.getElem?_eq_none (by rw [hl]; omega)]

theorem W_makeSlice {t e k bytes : Nat} {x y : Operand} {kl kc : IntKind} {n c : Int} {n' c' : Nat} {z : Value} {zc : Array Value} [hu : Und P t (.slice e)] [he : ElemC P e k bytes] [hz : ZeroC P e z] (hx : evO env x = some (.int kl n)) (hy : evO env y = some (.int kc c))
    (hzc : z.cells = zc) (hn' : n.toNat = n') (hc' : c.toNat = c') (h0 : 0 ≤ n ∧ n ≤ c) (hb : bytes * c ≤ 140737488355328 ∧ c ≤ 140737488355328) :
    OpW P w0 nt L env (.makeSlice t x y) ty (fun u L' => ∃ b, u = .slice (some ⟨b, 0, none⟩) n' c' ∧ SlOK (some ⟨b, 0, none⟩) n' c' ∧ L' = vec e k (List.replicate n' zc) (.slice (some ⟨b, 0, none⟩) n' c') :: L) := .mk fun o ho hty a ha w hs => by
  subst hn' hc'
  obtain ⟨i, z', hi, rfl, rfl, hz', hzs, hk⟩ := he.h
  obtain rfl : z' = z := by
    have := hz.h w
    simpa [zeroValue, typeInfo, hi, hz'] using this
  subst hzc
  have hr := run_make (P := P) w t e i z' hu.h hi hz' kl kc n c h0.1 h0.2 (by omega) (by omega)
  refine ⟨_, _, _, .inl ?_, (hs.alloc (.cells (madeCells z'.cells (c.toNat * i.size)) e)).ent (Ent.vec_close ?_ ?_ ?_ ?_ ?_ (size_madeCells _ _) ?_), w.heap.size, rfl, ⟨by omega, by omega, fun _ => ⟨_, _, rfl⟩⟩, rfl⟩
  · simp [execOp, ho, ha.eval hx, ha.eval hy, hr]
  · intro x hx; rw [(List.mem_replicate.1 hx).2]; exact hzs
  · simp; omega
  · simp
  · omega
  · unfold maxLen; omega
  · rw [madeCells_is _ _ _ hzs hk]
    have h1 : c.toNat = n.toNat + (c.toNat - n.toNat) := by omega
    rw [h1, ← List.replicate_append_replicate, flat_append]
    have h2 : (flat (List.replicate n.toNat z'.cells)).length = n.toNat * i.size := by
      rw [flat_length (k := i.size) (fun x hx => by rw [(List.mem_replicate.1 hx).2]; exact hzs)]; simp
    rw [← h2]; exact List.take_left

/-- one element of one cell -/
theorem W_store_el1 {t : TypeId} {x y : Operand} {e g off i n cap : Nat} {els : List (Array Value)} {v : Value} [SizeC P t 1] (hx : evO env x = some (.pointer (some ⟨g, off + i * 1, none⟩)))
    (hy : evO env y = some v) (hr : Rem (vec e 1 els (.slice (some ⟨g, off, none⟩) n cap)) L F) (h1 : v.oneCell' = true) (hi : i < els.length) :
    OpW P w0 nt L env (.store t x y) ty (fun u L2 => u = undef ∧ L2 = vec e 1 (els.set i #[v]) (.slice (some ⟨g, off, none⟩) n cap) :: F) := .mk fun o ho hty a ha w hs => by
  have hs' := hs.ent (Ent.pick hr (Ent.refl F))
  obtain ⟨hke, _, _⟩ := vec_open hs'.own
  have hsz : (els.getD i #[]).size = 1 := by
    have h0 : els.getD i #[] = els[i] := by simp [List.getD, hi]
    rw [h0]; exact hke _ (List.getElem_mem hi)
  obtain ⟨u, hu⟩ : ∃ u, els.getD i #[] = #[u] := by
    generalize els.getD i #[] = c at hsz
    obtain ⟨l⟩ := c
    match l, hsz with
    | [u], _ => exact ⟨u, rfl⟩
  exact (W_store_elf (P := P) (w0 := w0) (nt := nt) (ty := ty) (t := t) (f := 0) (hx := by simpa using hx) hy hr h1 hi hu rfl (by rfl)).h o ho hty a ha w hs

/-- a copy into a row of the call's own, of one cell a piece, from its beginning -/
theorem W_copy1 {dT sT e bytes g n cap m c : Nat} {x y : Operand} {els news : List (Array Value)} {b off : Nat} [hu : Und P dT (.slice e)] [he : ElemC P e 1 bytes] (hx : evO env x = some (.slice (some ⟨g, 0, none⟩) n cap)) (hy : evO env y = some (.slice (some ⟨b, off, none⟩) m c))
    (hr : Rem (vec e 1 els (.slice (some ⟨g, 0, none⟩) n cap)) L F) (hb : SlC F (some ⟨b, off, none⟩) 1 m c news) (hk : ∀ x ∈ news, x.size = 1) (h1 : ∀ x ∈ news, ∀ u ∈ x.toList, u.oneCell' = true) (hm : m ≤ n) :
    OpW P w0 nt L env (.call ⟨.builtin .copy, #[x, y], #[dT, sT]⟩) ty (fun u L' => u = .int .i64 m ∧ L' = vec e 1 (news ++ els.drop m) (.slice (some ⟨g, 0, none⟩) n cap) :: F) := .mk fun o ho hty a ha w hs => by
  have hs' := hs.ent hr.ent
  obtain ⟨hke, hbe, hp⟩ := vec_open hs'.own
  rcases hp with ⟨h, _⟩ | ⟨g', cap', cur, h, hnc, hcm, hsz, htk, H⟩
  · cases h
  simp only [Value.slice.injEq, Option.some.injEq, Addr.mk.injEq, and_true] at h
  obtain ⟨rfl, rfl, rfl⟩ := h
  have hs2 : Sat w0 w (pt g (.cells cur e) :: F) := ⟨hs'.os, hs'.tape, hs'.output, hs'.size, hs'.drawn, H⟩
  obtain ⟨pp, q, hsp, _, hF⟩ := own_cons.1 hs'.own
  obtain ⟨i, z, hi, hi1, _, _, _, _⟩ := he.h
  have hlen := hb.len
  have hfl : (flat news).length = m := by rw [flat_length hk, hlen]; omega
  have hfe : (flat els).length = els.length := by rw [flat_length hke]; omega
  have hcur : cur.size = cap := by omega
  have hcl := run_copy_row (P := P) w dT sT o.type e g 0 els.length cap ⟨b, off, none⟩ m c cur e (flat news) hu.h (by simp [hi, hi1]) (hs2.read Reads.here)
    (by rw [hfl]; exact (Nat.min_eq_left hm).symm) (fun j v hj => by
      have hj' : j < m := by rw [← hfl]; exact (List.getElem?_eq_some_iff.1 hj).1
      obtain ⟨b', off', ca, T, fr, e1, e2, e3, e4⟩ := hb.at_ q hF j hj'
      simp only [Option.some.injEq, Addr.mk.injEq, and_true] at e1
      obtain ⟨rfl, rfl⟩ := e1
      have e5 : w.heap[b]? = some (.cells ca T fr) := by have := hsp b; simp_all
      rw [addr_add, cell?_of e5]
      have h6 := flat_el hk j (by omega)
      rw [← e4] at h6
      have h8 := congrArg (·[0]?) h6
      simp only [List.getElem?_take, List.getElem?_drop, Array.getElem?_toList, Array.getElem?_extract] at h8
      simp at h8
      rw [hj] at h8
      rw [h8, if_pos (by omega)]) (by omega) (fun v hv => by
      obtain ⟨x, hx, hux⟩ := List.mem_flatMap.1 hv
      exact h1 x hx v hux)
  refine ⟨.int .i64 m, w.setRow g (cur.toList.take 0 ++ flat news ++ cur.toList.drop (0 + (flat news).length)).toArray, _, .inl ?_, (setRow_sat hs2).ent (Ent.vec_close ?_ ?_ ?_ hnc hcm ?_ ?_), rfl, rfl⟩
  · simp only [execOp, ho, resolve, invoke, builtin, Sem.run_bind, Sem.run_pure, Result.andThen_ok, List.map_toArray, List.map_cons, List.map_nil, ha.eval hx, ha.eval hy]
    rw [hcl, hfl]; rfl
  · intro z hz
    rcases List.mem_append.1 hz with hz | hz
    · exact hk z hz
    · exact hke z (List.mem_of_mem_drop hz)
  · rw [List.length_append, List.length_drop]; omega
  · rw [List.length_append, List.length_drop]; omega
  · simp only [List.size_toArray, List.length_append, List.length_take, List.length_drop, Array.length_toList]; omega
  · simp only [List.take_zero, List.nil_append, Nat.zero_add, Nat.mul_one, hfl]
    have h9 : flat (els.drop m) = (flat els).drop m := by
      have := congrArg flat (List.take_append_drop m els)
      rw [flat_append] at this
      have h10 : (flat (els.take m)).length = m := by rw [flat_length (k := 1) (fun x hx => hke x (List.mem_of_mem_take hx)), List.length_take]; omega
      rw [← this]; conv => lhs; rw [← List.drop_left (l₁ := flat (els.take m)) (l₂ := flat (els.drop m)), h10]
    rw [flat_append, h9, ← htk, Nat.mul_one, List.drop_take]
    rw [List.take_append]
    simp only [hfl]
    congr 1
    rw [List.take_of_length_le (by omega)]

theorem R_bytes_string {t t' e : TypeId} {x : Operand} {p : Option Addr} {n c : Nat} {l : List Int} [hu : Und P t (.slice e)] [hd : Und P t' .string] [he : Und P e (.int .u8)] (hx : evO env x = some (.slice p n c)) (hl : SlC L p 1 n c (l.map u8c)) :
    OpR P w0 nt L env (.convert t t' x) ty (.string (strOfNums l)) := .mk fun o ho _ a ha w hw => by
  have hlen : l.length = n := by simpa using hl.len
  have key : (convert t t' (.slice p n c)).run P w = .ok (.string (strOfNums l)) w := by
    rcases p with _ | ⟨b, off, sp⟩
    · have h0 : n = 0 := by
        rcases Nat.eq_zero_or_pos n with h | h
        · exact h
        · obtain ⟨b, off, h2⟩ := hl.ptr h; cases h2
      obtain rfl : l = [] := List.eq_nil_of_length_eq_zero (by omega)
      exact run_convert_bytes_nil w t e hu.h he.h n c t' hd.h
    · by_cases h0 : n = 0
      · subst h0
        obtain rfl : l = [] := List.eq_nil_of_length_eq_zero hlen
        rw [run_convert_bytes_string w t t' e _ 0 c hu.h he.h hd.h, run_bytesToString w _ 0 c [] (by simp [loadCells, loadCellsFrom])]
        rfl
      · obtain ⟨b', off', h2⟩ := hl.ptr (by omega)
        cases h2
        refine run_convert_bytes_arg w t e hu.h he.h b off n c l hlen (fun i hi => ?_) t' hd.h
        obtain ⟨b', off', ca, T, fr, e1, e2, e3, e4⟩ := hl.at_ _ hw.own i hi
        simp only [Option.some.injEq, Addr.mk.injEq, and_true] at e1
        obtain ⟨rfl, rfl⟩ := e1
        rw [cell?_of e2]
        have h6 := congrArg (·[0]?) e4
        simp [u8c, List.getD, show i < l.length by omega] at h6
        rw [Array.getElem?_extract, if_pos (by omega)] at h6
        simpa [List.getD, show i < l.length by omega] using h6
  simp only [execOp, ho, ha.eval hx, key, Sem.run_bind, Result.andThen_ok, Sem.run_pure]
end
end Go.SL
