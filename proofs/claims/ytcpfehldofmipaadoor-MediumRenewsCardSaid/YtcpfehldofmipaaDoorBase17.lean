/-
  OWN BASE, PART 17: arrays within rows: slices of them, loads, copies; clear; whole stores whose size is told.
-/
import Derived.Test.YtcpfehldofmipaaDoorBase16
namespace Go.SL
open Go

theorem flat_setSeg {k : Nat} : ∀ {els : List (Array Value)} (i : Nat) (x : Array Value), (∀ y ∈ els, y.size = k) → i < els.length → flat (els.set i x) = (flat els).take (i * k) ++ x.toList ++ (flat els).drop ((i + 1) * k)
  | [], i, x, _, h => by simp at h
  | e :: r, 0, x, hk, h => by
    have h1 := hk e (by simp)
    simp only [flat, List.set_cons_zero, List.flatMap_cons, Nat.zero_mul, List.take_zero, List.nil_append, Nat.zero_add, Nat.one_mul]
    rw [← h1, ← Array.length_toList, List.drop_left]
  | e :: r, i + 1, x, hk, h => by
    have h1 := hk e (by simp)
    have h2 := flat_setSeg (els := r) i x (fun y hy => hk y (by simp [hy])) (by simpa using h)
    simp only [flat, List.set_cons_succ, List.flatMap_cons] at h2 ⊢
    have e1 : (i + 1) * k = e.toList.length + i * k := by rw [Array.length_toList, h1, Nat.add_mul]; omega
    have e2 : (i + 1 + 1) * k = e.toList.length + (i + 1) * k := by rw [Array.length_toList, h1, Nat.add_mul (i + 1)]; omega
    rw [h2, e2, List.take_append, List.drop_append]
    rw [e1, Nat.add_sub_cancel_left, List.take_of_length_le (by omega : e.toList.length ≤ e.toList.length + i * k)]
    rw [show e.toList.length + (e.toList.length + i * k) - e.toList.length = e.toList.length + i * k by omega, List.drop_of_length_le (by omega : e.toList.length ≤ e.toList.length + (e.toList.length + i * k))]
    simp

section
variable {P : Program} {w0 : World} {nt : Nat} {L F : List HP} {env : Env} {ty : TypeId}

theorem R_sliceArr_h {t e : TypeId} {x y : Operand} {b off n sz : Nat} {k : IntKind} {h : Int} [hu : Und P t (.array n e)] [hz : SizeC P e sz] (hx : evO env x = some (.pointer (some ⟨b, off, none⟩))) (hy : evO env y = some (.int k h)) (hh : 0 ≤ h ∧ h ≤ n) :
    OpR P w0 nt L env (.slice t x none (some y) none) ty (.slice (some ⟨b, off, none⟩) h.toNat n) := .mk fun o ho _ a hr w _ => by
  have h0 : (⟨b, off, none⟩ : Addr).add 0 = ⟨b, off, none⟩ := by rw [addr_add]; rfl
  simp [execOp, ho, hr.eval hx, hr.eval hy, Instr.sliceAt, run_underlying hu.h, Instr.sureAddr, Instr.sliceBounds, Instr.sliceBound, asIntOf, hh.1, hh.2, hz.h, h0]
theorem R_sliceArr {t e : TypeId} {x : Operand} {b off n sz : Nat} [hu : Und P t (.array n e)] [hz : SizeC P e sz] (hx : evO env x = some (.pointer (some ⟨b, off, none⟩))) :
    OpR P w0 nt L env (.slice t x none none none) ty (.slice (some ⟨b, off, none⟩) n n) := .mk fun o ho _ a hr w _ => by
  have h0 : (⟨b, off, none⟩ : Addr).add 0 = ⟨b, off, none⟩ := by rw [addr_add]; rfl
  simp [execOp, ho, hr.eval hx, Instr.sliceAt, run_underlying hu.h, Instr.sureAddr, Instr.sliceBounds, hz.h, h0]
theorem R_s2ap {t e : TypeId} {x : Operand} {p : Option Addr} {n c m : Nat} [hu : Und P t (.array m e)] (hx : evO env x = some (.slice p n c)) (hn : m ≤ n) : OpR P w0 nt L env (.sliceToArrayPointer t x) ty (.pointer p) := .mk fun o ho _ a hr w _ => by
  have : ¬ n < m := by omega
  simp [execOp, ho, hr.eval hx, Instr.arrayAt, run_underlying hu.h, this]

/-- a part of an element -/
theorem L_load_elpart {t : TypeId} {x : Operand} {b off i f k n m cap : Nat} {els : List (Array Value)} {cs : Array Value} {l : List Value} [hg : AggC P t true] [hz : SizeC P t m] (hx : evO env x = some (.pointer (some ⟨b, off + i * k + f, none⟩)))
    (hs : SlC L (some ⟨b, off, none⟩) k n cap els) (hi : i < n) (hv : els.getD i #[] = cs) (hl : (cs.toList.drop f).take m = l) (hk : f + m ≤ k) : OpR P w0 nt L env (.load t x) ty (.agg l.toArray) := .mk fun o ho ht a ha w hw => by
  obtain ⟨b', off', c, T, fr, e1, e2, e3, e4⟩ := hs.at_ _ hw.own i hi
  simp only [Option.some.injEq, Addr.mk.injEq, and_true] at e1
  obtain ⟨rfl, rfl⟩ := e1
  have h5 : c.extract (off + i * k + f) (off + i * k + f + m) = l.toArray := by
    rw [← hl, ← hv, ← e4]
    apply Array.ext'
    simp only [Array.toList_extract, List.extract_eq_take_drop, List.drop_take, List.drop_drop, List.take_take]
    congr 1; omega
  simp [execOp, ho, ha.eval hx, Instr.loadAt, Instr.sureAddr, loadVar, hg.h, hz.h, run_loadCells_of e2 (show off + i * k + f + m ≤ c.size by omega), h5]

/-- clear, of a slice of the call's own -/
theorem W_clearS {t e k bytes n cap : Nat} {x : Operand} {p : Option Addr} {els : List (Array Value)} {z : Value} {zc : Array Value} [hu : Und P t (.slice e)] [he : ElemC P e k bytes] [hz : ZeroC P e z] (hx : evO env x = some (.slice p n cap))
    (hr : Rem (vec e k els (.slice p n cap)) L F) (hzc : z.cells = zc) (h1 : ∀ v ∈ zc.toList, v.oneCell' = true) :
    OpW P w0 nt L env (.call ⟨.builtin .clear, #[x], #[t]⟩) ty (fun u L' => u = .tuple #[] ∧ L' = vec e k (List.replicate n zc) (.slice p n cap) :: F) := .mk fun o ho hty a ha w hs => by
  subst hzc
  have hs' := hs.ent hr.ent
  obtain ⟨hke, hbe, hp⟩ := vec_open hs'.own
  obtain ⟨i, z', hi, rfl, rfl, hz', hzs, hk⟩ := he.h
  obtain rfl : z' = z := by
    have := hz.h w
    simpa [zeroValue, typeInfo, hi, hz'] using this
  rcases hp with ⟨h, rfl⟩ | ⟨g', cap', cur, h, hnc, hcm, hsz, htk, H⟩
  · cases h
    refine ⟨.tuple #[], w, _, .inl ?_, hs', rfl, rfl⟩
    simp only [execOp, ho, resolve, invoke, builtin, Builtin.clear_, Sem.run_bind, Sem.run_pure, Result.andThen_ok, List.map_toArray, List.map_cons, List.map_nil, ha.eval hx]
    simp [run_underlying hu.h]
  simp only [Value.slice.injEq] at h
  obtain ⟨rfl, rfl, rfl⟩ := h
  have hs2 : Sat w0 w (pt g' (.cells cur e) :: F) := ⟨hs'.os, hs'.tape, hs'.output, hs'.size, hs'.drawn, H⟩
  by_cases h0 : els.length = 0
  · refine ⟨.tuple #[], w, _, .inl ?_, hs'.ent ?_, rfl, rfl⟩
    · simp only [execOp, ho, resolve, invoke, builtin, Builtin.clear_, Sem.run_bind, Sem.run_pure, Result.andThen_ok, List.map_toArray, List.map_cons, List.map_nil, ha.eval hx, h0]
      simp [run_underlying hu.h]
    · obtain rfl := List.eq_nil_of_length_eq_zero h0
      exact Ent.refl _
  · have hrep : ∀ x ∈ List.replicate els.length z'.cells, x.size = i.size := fun x hx => by rw [(List.mem_replicate.1 hx).2]; exact hzs
    have hzl : (Builtin.zeroCells z'.cells els.length).toList = flat (List.replicate els.length z'.cells) := by
      have := madeCells_is z'.cells els.length i.size hzs hk
      rw [← hzs] at this; exact this
    have hfl : (flat (List.replicate els.length z'.cells)).length = els.length * i.size := by rw [flat_length hrep]; simp
    have hle : els.length * i.size ≤ cap * i.size := Nat.mul_le_mul_right _ hnc
    have hst := run_storeCells_at P g' 0 e (flat (List.replicate els.length z'.cells)) 0 cur w (hs2.read Reads.here) (by rw [hfl, hsz]; omega) (fun v hv => by
      obtain ⟨x, hx, hvx⟩ := List.mem_flatMap.1 hv
      rw [(List.mem_replicate.1 hx).2] at hvx
      exact h1 v hvx)
    have hzv : (zeroValue e).run P w = .ok z' w := hz.h w
    refine ⟨.tuple #[], w.setRow g' (cur.toList.take (0 + 0) ++ flat (List.replicate els.length z'.cells) ++ cur.toList.drop (0 + 0 + (flat (List.replicate els.length z'.cells)).length)).toArray, _, .inl ?_, (setRow_sat hs2).ent (Ent.vec_close hrep ?_ ?_ hnc hcm ?_ ?_), rfl, rfl⟩
    · simp only [execOp, ho, resolve, invoke, builtin, Builtin.clear_, Sem.run_bind, Sem.run_pure, Result.andThen_ok, List.map_toArray, List.map_cons, List.map_nil, ha.eval hx]
      have hn0 : ∃ q, els.length = q + 1 := ⟨els.length - 1, by omega⟩
      obtain ⟨q, hq⟩ := hn0
      simp only [hq] at hst hzl ⊢
      simp [run_underlying hu.h, hzv, hzl, hst]
    · simpa using hbe
    · simp
    · rw [List.size_toArray, List.length_append, List.length_append, List.length_take, List.length_drop, Array.length_toList, hfl]; omega
    · rw [List.take_zero, List.nil_append, ← hfl]; exact List.take_left

/-- a copy into an element of a row of the call's own, from its beginning -/
theorem W_copyArr {dT sT e e1 bytes g off i k h n cap cp cq b o2 : Nat} {x y : Operand} {els : List (Array Value)} {c : Array Value} {T : TypeId} {fr : Nat × Nat} [hu : Und P dT (.slice e1)] [he : ElemC P e1 1 bytes] (hx : evO env x = some (.slice (some ⟨g, off + i * k, none⟩) h cp)) (hy : evO env y = some (.slice (some ⟨b, o2, none⟩) h cq))
    (hr : Rem (vec e k els (.slice (some ⟨g, off, none⟩) n cap)) L F) (hb : ReadC F b (.cells c T fr)) (hle : o2 + h ≤ c.size) (h1 : ∀ v ∈ c.toList, v.oneCell' = true) (hi : i < els.length) (hhk : h ≤ k) :
    OpW P w0 nt L env (.call ⟨.builtin .copy, #[x, y], #[dT, sT]⟩) ty (fun u L' => u = .int .i64 h ∧ L' = vec e k (els.set i ((c.toList.drop o2).take h ++ (els.getD i #[]).toList.drop h).toArray) (.slice (some ⟨g, off, none⟩) n cap) :: F) := .mk fun o ho hty a ha w hs => by
  have hs' := hs.ent hr.ent
  obtain ⟨hke, hbe, hp⟩ := vec_open hs'.own
  rcases hp with ⟨hv, _⟩ | ⟨g', cap', cur, hv, hnc, hcm, hsz, htk, H⟩
  · cases hv
  simp only [Value.slice.injEq, Option.some.injEq, Addr.mk.injEq, and_true] at hv
  obtain ⟨⟨rfl, rfl⟩, rfl, rfl⟩ := hv
  have hs2 : Sat w0 w (pt g (.cells cur e) :: F) := ⟨hs'.os, hs'.tape, hs'.output, hs'.size, hs'.drawn, H⟩
  obtain ⟨it, z, hit, hi1, _, _, _, _⟩ := he.h
  have hrb := hs'.read (Reads.there hb.h)
  have hcl : ((c.toList.drop o2).take h).length = h := by simp; omega
  have hik : (i + 1) * k ≤ els.length * k := Nat.mul_le_mul_right k hi
  have hik2 : (i + 1) * k = i * k + k := by rw [Nat.add_mul]; omega
  have hck : els.length * k ≤ cap * k := Nat.mul_le_mul_right k hnc
  have hget : els.getD i #[] = els[i] := by simp [List.getD, hi]
  have hcl2 := run_copy_row (P := P) w dT sT o.type e1 g (0 + i * k) h cp ⟨b, o2, none⟩ h cq cur e ((c.toList.drop o2).take h) hu.h (by simp [hit, hi1]) (hs2.read Reads.here)
    (by rw [hcl]; exact (Nat.min_self h).symm) (fun j v hj => by
      rw [addr_add, cell?_of hrb]
      rw [List.getElem?_take] at hj
      split at hj
      · rw [List.getElem?_drop] at hj; simpa using hj
      · cases hj) (by omega) (fun v hv => h1 v (List.mem_of_mem_drop (List.mem_of_mem_take hv)))
  have hset : ∀ x ∈ els.set i ((c.toList.drop o2).take h ++ (els.getD i #[]).toList.drop h).toArray, x.size = k := fun x hx => by
    rcases List.mem_or_eq_of_mem_set hx with hx | rfl
    · exact hke x hx
    · have := hke els[i] (List.getElem_mem hi)
      rw [List.size_toArray, List.length_append, hcl, List.length_drop, hget, Array.length_toList]; omega
  refine ⟨.int .i64 h, w.setRow g _, _, .inl ?_, (setRow_sat (cs := (cur.toList.take (0 + i * k) ++ (c.toList.drop o2).take h ++ cur.toList.drop (0 + i * k + ((c.toList.drop o2).take h).length)).toArray) hs2).ent (Ent.vec_close hset ?_ ?_ hnc hcm ?_ ?_), rfl, rfl⟩
  · simp only [execOp, ho, resolve, invoke, builtin, Sem.run_bind, Sem.run_pure, Result.andThen_ok, List.map_toArray, List.map_cons, List.map_nil, ha.eval hx, ha.eval hy]
    rw [hcl2]; simp only [Result.andThen_ok, hcl]; rfl
  · rw [List.length_set]; exact hbe
  · rw [List.length_set]
  · rw [List.size_toArray, List.length_append, List.length_append, List.length_take, List.length_drop, Array.length_toList, hcl]; omega
  · rw [flat_setSeg i _ hke hi, List.toList_toArray, hcl, Nat.zero_add]
    have e1 : (els.getD i #[]).toList = ((flat els).drop (i * k)).take k := (flat_el hke i hi).symm
    have hfl := flat_length hke
    have e2 : (flat els).take (i * k) = cur.toList.take (i * k) := by rw [← htk, List.take_take]; congr 1; omega
    have e3 : ∀ q, q ≤ els.length * k → (flat els).drop q = (cur.toList.drop q).take (els.length * k - q) := fun q hq => by rw [← htk, List.drop_take]
    rw [e1, e2, e3 _ hik, e3 (i * k) (by omega)]
    rw [List.take_append, List.take_append]
    simp only [List.length_take, List.length_drop, List.length_append, Array.length_toList, hsz]
    have g1 : min (i * k) (cap * k) = i * k := by omega
    have g2 : min h (c.toList.length - o2) = h := by simp; omega
    rw [g1]
    have g3 : min h (c.size - o2) = h := by omega
    simp only [g3]
    rw [List.take_take, List.take_of_length_le (by simp; omega) (i := els.length * k - i * k) (l := (c.toList.drop o2).take h), ← List.append_assoc, List.append_assoc (_ ++ _)]
    have g4 : min (els.length * k) (i * k) = i * k := by omega
    rw [g4]
    congr 1
    rw [List.take_take, List.drop_take, List.drop_drop]
    have g5 : min k (els.length * k - i * k) = k := by omega
    rw [g5]
    have g6 : els.length * k - (i * k + h) = (k - h) + (els.length * k - (i + 1) * k) := by omega
    rw [g6, List.take_add, List.drop_drop]
    have g7 : i * k + h + (k - h) = (i + 1) * k := by omega
    rw [g7]

theorem W_clearM {t kt et : TypeId} {d : TypeDesc} {x : Operand} {r : Nat} {f : Value → Option Value} [hm : Und P t (.map kt et)] (hx : evO env x = some (.map (some r))) (hr : Rem (mp d r f) L F) :
    OpW P w0 nt L env (.call ⟨.builtin .clear, #[x], #[t]⟩) ty (fun u L' => u = .tuple #[] ∧ L' = mp d r (fun _ => none) :: F) := .mk fun o ho hty a ha w hs => by
  have hs' := hs.ent hr.ent
  obtain ⟨es, clock, hown, _⟩ := mp_open hs'.own
  have hs2 : Sat w0 w (pt r (.map es clock) :: F) := ⟨hs'.os, hs'.tape, hs'.output, hs'.size, hs'.drawn, hown⟩
  have hb := hs2.read Reads.here
  have h3 : Sat w0 { w with heap := w.heap.setIfInBounds r (.map #[] clock) } (pt r (.map #[] clock) :: F) := hs2.set Upd.here rfl rfl rfl rfl rfl
  refine ⟨.tuple #[], _, _, .inl ?_, h3.ent (Ent.mp_close (by simp) (by simp) (by simp)), rfl, rfl⟩
  simp only [execOp, ho, resolve, invoke, builtin, Builtin.clear_, Sem.run_bind, Sem.run_pure, Result.andThen_ok, List.map_toArray, List.map_cons, List.map_nil, ha.eval hx]
  simp [run_underlying hm.h, MapKept.run_getObj_map hb, MapKept.run_setObj_map _ hb]

def bcell (l : List Int) : Array Value := (l.map (Value.int .u8)).toArray
theorem bcell_size (l : List Int) : (bcell l).size = l.length := by simp [bcell]
theorem bcell_one {l : List Int} : ∀ v ∈ (bcell l).toList, v.oneCell' = true := by
  intro v hv
  simp only [bcell, List.mem_map] at hv
  obtain ⟨z, _, rfl⟩ := hv; rfl
theorem flat_u8 (l : List Int) : flat (l.map u8c) = l.map (Value.int .u8) := by
  induction l with
  | nil => rfl
  | cons z r ih => simp only [flat, List.map_cons, List.flatMap_cons] at ih ⊢; rw [ih]; rfl

/-- an array, where a slice of bytes lies -/
theorem L_load_slcA {t : TypeId} {x : Operand} {b off n cap : Nat} {l : List Int} [hg : AggC P t true] [hz : SizeC P t n] (hx : evO env x = some (.pointer (some ⟨b, off, none⟩)))
    (hs : SlC L (some ⟨b, off, none⟩) 1 n cap (l.map u8c)) (h0 : 0 < n) : OpR P w0 nt L env (.load t x) ty (.agg (bcell l)) := .mk fun o ho _ a ha w hw => by
  have hlen : l.length = n := by simpa using hs.len
  obtain ⟨b', off', c, T, fr, e1, e2, e3, e4⟩ := hs.at_ _ hw.own 0 h0
  simp only [Option.some.injEq, Addr.mk.injEq, and_true] at e1
  obtain ⟨rfl, rfl⟩ := e1
  have hall : ∀ i, i < n → c[off + i]? = some (.int .u8 (l.getD i 0)) ∧ off + i + 1 ≤ c.size := fun i hi => by
    obtain ⟨b', off', c', T', fr', d1, d2, d3, d4⟩ := hs.at_ _ hw.own i hi
    simp only [Option.some.injEq, Addr.mk.injEq, and_true] at d1
    obtain ⟨rfl, rfl⟩ := d1
    rw [e2] at d2
    simp only [Option.some.injEq, Obj.cells.injEq] at d2
    obtain ⟨rfl, _⟩ := d2
    have h6 := congrArg (·[0]?) d4
    simp [u8c, List.getD, show i < l.length by omega] at h6
    rw [Array.getElem?_extract, if_pos (by omega)] at h6
    exact ⟨by simpa [List.getD, show i < l.length by omega] using h6, by omega⟩
  have hsz : off + n ≤ c.size := by have := (hall (n - 1) (by omega)).2; omega
  have h5 : c.extract off (off + n) = bcell l := by
    apply Array.ext_getElem?
    intro i
    rw [Array.getElem?_extract]
    by_cases hi : i < n
    · rw [if_pos (by omega), (hall i hi).1]
      simp [bcell, List.getD, show i < l.length by omega]
    · rw [if_neg (by omega), Array.getElem?_eq_none (by rw [bcell_size]; omega)]
  simp [execOp, ho, ha.eval hx, Instr.loadAt, Instr.sureAddr, loadVar, hg.h, hz.h, run_loadCells_of e2 hsz, h5]

/-- a store of a whole block, the sizes told -/
theorem W_storeAllS {t : TypeId} {x y : Operand} {b n : Nat} {c vs : Array Value} {T : TypeId} {C : Array Value → List HP} [SizeC P t n] (hx : evO env x = some (.pointer (some ⟨b, 0, none⟩)))
    (hy : evO env y = some (.agg vs)) (hc : Cell L b T (0, 0) c C) (hn : vs.size = n) (hm : c.size = n) (h1 : ∀ v ∈ vs.toList, v.oneCell' = true) :
    OpW P w0 nt L env (.store t x y) ty (fun u L2 => u = undef ∧ L2 = C vs) := by
  have h2 : wrs c 0 vs.toList = vs := by have := wrs_all (l := vs.toList) c.toList [] (by simp [hn, hm]); simpa using this
  have := W_storeA (P := P) (w0 := w0) (nt := nt) (env := env) (ty := ty) (t := t) hx hy hc hn h1 (by omega) (.inl (Nat.zero_le _))
  rwa [h2] at this
/-- a block of bytes as a slice that is read -/
theorem Ent.vec_block {b n : Nat} {T : TypeId} {l : List Int} {F : List HP} (hl : l.length = n) (hn : n ≤ 1000000) : Ent (pt b (.cells (bcell l) T) :: F) (vec T 1 (l.map u8c) (.slice (some ⟨b, 0, none⟩) n n) :: F) := by
  refine Ent.vec_close ?_ ?_ ?_ (Nat.le_refl _) ?_ ?_ ?_
  · intro x hx
    obtain ⟨z, _, rfl⟩ := List.mem_map.1 hx; rfl
  · simp; omega
  · simpa using hl
  · unfold maxLen; omega
  · rw [bcell_size]; omega
  · rw [flat_u8, Nat.mul_one, ← hl]; simp only [bcell, List.toList_toArray]; exact List.take_of_length_le (by simp)
end
end Go.SL
