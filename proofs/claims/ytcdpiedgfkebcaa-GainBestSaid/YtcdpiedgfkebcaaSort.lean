/-
  The library's sort, over lists of parts.
-/
import Derived.Test.YtcdpiedgfkebcaaLaid
import Derived.Test.YtcdpiedgfkebcaaBase5
namespace Go.SL
open Go Go.Proofs Go.Shelf Go.RowKit Go.Lib Go.Sort

theorem sat_grow {W w' : World} (h : Sat W w' [whole W]) : ∃ q os', w' = grow (W.drewN q) os' := by
  have hb := h.below
  refine ⟨w'.drawn - W.drawn, w'.heap.extract W.heap.size w'.heap.size, ?_⟩
  have hd := h.drawn
  have hh : w'.heap = W.heap ++ w'.heap.extract W.heap.size w'.heap.size := by
    apply Array.ext_getElem?
    intro i
    rw [Array.getElem?_append]
    by_cases hi : i < W.heap.size
    · rw [if_pos hi, hb.block i hi]
    · rw [if_neg hi, Array.getElem?_extract]
      have := hb.size
      by_cases hi2 : i < w'.heap.size
      · rw [if_pos (by omega)]; congr 1; omega
      · rw [if_neg (by omega), Array.getElem?_eq_none (by omega)]
  obtain ⟨a1, a2, a3, a4, a5⟩ := w'
  have h1 := h.os; have h2 := h.tape; have h3 := h.output
  simp only at *
  subst h1; subst h2; subst h3
  simp only [grow, World.drewN, World.mk.injEq, and_true, true_and]
  exact ⟨hh, by omega⟩

theorem Sat.grow {w0 w : World} {L : List HP} (h : Sat w0 w L) (os : Array Obj) : Sat w0 (grow w os) L :=
  h.mk_own rfl rfl rfl (by simp [Go.Sort.grow]) (Nat.le_refl _) (own_mono' h.own fun b hb => by
    simp only [Go.Sort.grow, Array.getElem?_append]
    by_cases hlt : b < w.heap.size
    · simp [hlt]
    · simp [Array.getElem?_eq_none (Nat.le_of_not_lt hlt)] at hb)
theorem Sat.ahead {w0 w : World} {L : List HP} (h : Sat w0 w L) (n : Nat) : Sat w0 (Go.Sort.ahead w n) L :=
  h.mk_own rfl rfl rfl (Nat.le_refl _) (by simp [Go.Sort.ahead]) h.own

theorem size_putCells {α : Type} [Inhabited α] (enc : α → Value) (off : Nat) (d : Array α) (c : Array Value) : (putCells enc off d c).size = c.size := by simp [putCells]

theorem Sat.putRow {w0 w : World} {F : List HP} {blk off : Nat} {cur : Array Value} {e : TypeId} {d : Array Value} (h : Sat w0 w (pt blk (.cells cur e) :: F)) :
    Sat w0 (putRow id w blk off d) (pt blk (.cells (putCells id off d cur) e) :: F) := by
  have hg := h.read Reads.here
  refine h.set Upd.here rfl rfl rfl rfl ?_
  have hlt : blk < w.heap.size := (Array.getElem?_eq_some_iff.1 hg).1
  apply Array.ext_getElem?
  intro i
  simp only [Go.Sort.putRow, mapBlock, Array.getElem?_modify, Array.getElem?_setIfInBounds]
  by_cases hi : blk = i
  · subst hi; simp only [if_true, hg, Option.map_some, onCells, hlt]
  · simp [hi]

/-- a list's cells as the sort's flat array -/
theorem flatK_toList {α : Type} [Inhabited α] (enc : α → Array Value) (k : Nat) (hk : ∀ x, (enc x).size = k) (l : List α) :
    (flatK (fun x => (enc x).toList) k l.toArray).toList = flat (l.map enc) := by
  have hk' : ∀ x ∈ l.map enc, x.size = k := by intro x hx; obtain ⟨y, _, rfl⟩ := List.mem_map.1 hx; exact hk y
  have hl := flat_length hk'
  apply List.ext_getElem?
  intro t
  by_cases ht : t < l.length * k
  · have hkp : 0 < k := by rcases Nat.eq_zero_or_pos k with h | h; subst h; omega; exact h
    have hi : t / k < l.length := by rwa [Nat.div_lt_iff_lt_mul hkp]
    have hm : t % k < k := Nat.mod_lt _ hkp
    have e1 := flat_el hk' (t / k) (by simpa using hi)
    have e2 := congrArg (·[t % k]?) e1
    simp only [List.getElem?_take, hm, if_true, List.getElem?_drop] at e2
    have e3 : t / k * k + t % k = t := by rw [Nat.mul_comm]; exact Nat.div_add_mod t k
    rw [e3] at e2
    rw [e2]
    have hsz : ((l.map enc).getD (t / k) #[]) = enc l[t / k] := by simp [hi]
    rw [hsz]
    have h1 : t < (flatK (fun x => (enc x).toList) k l.toArray).size := by simpa using ht
    have h0 := get_flatK (fun x => (enc x).toList) k l.toArray t (by simpa using ht)
    rw [getElem!_pos (flatK (fun x => (enc x).toList) k l.toArray) t h1] at h0
    rw [Array.getElem?_toList, Array.getElem?_eq_getElem h1, h0]
    have hg : (l.toArray : Array α)[t / k]! = l[t / k] := by simp [hi]
    rw [hg]
    have h2 : t % k < (enc l[t / k]).toList.length := by rw [Array.length_toList, hk]; exact hm
    rw [getElem!_pos (enc l[t / k]).toList (t % k) h2, List.getElem?_eq_getElem h2]
  · rw [List.getElem?_eq_none (by simpa using ht), List.getElem?_eq_none (by rw [hl]; simpa using ht)]

section
variable {P : Program} {α : Type} [Inhabited α]

/-- What is asked of the comparison, over whatever list: the contract of a function that reads. -/
theorem cmpLays_of {g : Nat} {cb : Array Value} {enc : α → List Value} {k : Nat} {cf : α → α → Int} {blk off size : Nat} {w : World}
    (h : ∀ (m : Nat) (os : Array Obj) (dk : Array α), dk.size = size → ∀ x y : α, Tr P g (#[.agg (enc x).toArray, .agg (enc y).toArray] ++ cb) [whole (sortWorldK enc k w blk off m dk os)]
      (fun v L' => v = .int .i64 (cf x y) ∧ [whole (sortWorldK enc k w blk off m dk os)] = L')) : CmpLays P g cb enc k cf blk off size w := fun m os dk hd x y => by
  refine ((h m os dk hd x y).h _ _ (Sat.start _)).mono ?_
  rintro e w' ⟨v, L', rfl, hs, rfl, rfl⟩
  exact ⟨rfl, sat_grow hs⟩

theorem perm_of_permIn {l : List α} {d' : Array α} (h : PermIn 0 l.toArray.size l.toArray d') : d'.toList.Perm l := by
  obtain ⟨h1, _, h3⟩ := h
  rw [← h1] at h3
  simpa using (show (d'.extract 0 d'.size).toList.Perm (l.toArray.extract 0 d'.size).toList from h3) |>.trans (by rw [h1]; simp)

theorem agg_toArray (l : Array Value) : l.toList.toArray = l := by simp

theorem take_putCells {c d : Array Value} (h : d.size ≤ c.size) : (putCells id 0 d c).toList.take d.size = d.toList := by
  apply List.ext_getElem?
  intro t
  rw [List.getElem?_take]
  by_cases ht : t < d.size
  · have htc : t < c.size := by omega
    simp [putCells, ht, htc]
  · simp [ht]

/-- The library's sort on a slice of the call's own, of elements of k cells. -/
theorem sort_vec {e : TypeId} {ρ : Ren} (LL : SlLaysF0.n6 P ρ) (k : Nat) (aE : ∀ w, (isAgg (ρ.t 24)).run P w = .ok true w) (zE : ∀ w, (Go.sizeOf (ρ.t 24)).run P w = .ok k w) (enc : α → Array Value) (hk : ∀ x, (enc x).size = k) (h1 : ∀ x, ∀ v ∈ enc x, v.oneCell' = true)
    (cf : α → α → Int) (hO : SWO (ltOf cf)) (hT : ∀ x y, (ltOf cf) x y = false → (ltOf cf) y x = false → x = y) (g : Nat) (cb : Array Value) (eg : ∀ args w, (callFunc g args).run P w = .ok (.enter g args) w)
    (hcmp : ∀ (L : List HP) (x y : α), Tr P g (#[.agg (enc x), .agg (enc y)] ++ cb) L (fun v L' => v = .int .i64 (cf x y) ∧ L = L')) (l : List α) (v : Value) (F : List HP) :
    Tr P (ρ.f 6) #[v, .func (.func g) #[] cb] (vec e k (l.map enc) v :: F) (fun r L' => r = .tuple #[] ∧ vec e k ((l.mergeSort fun x y => !(ltOf cf) y x).map enc) v :: F = L') := .mk fun w0 w hs => by
  obtain ⟨hke, hb, hv⟩ := vec_open hs.own
  rw [List.length_map] at hb hv
  rcases hv with ⟨rfl, hl⟩ | ⟨blk, cap, cur, rfl, hnc, hcm, hsz, htk, H⟩
  · have hl0 : l = [] := List.map_eq_nil_iff.1 hl
    subst hl0
    refine (AnyF.slices_SortFunc_none LL none 0 _ w).mono ?_
    rintro e' w' ⟨rfl, rfl⟩
    exact ⟨_, _, rfl, hs, rfl, by simp⟩
  · have hs' : Sat w0 w (pt blk (.cells cur e) :: F) := ⟨hs.os, hs.tape, hs.output, hs.size, hs.drawn, H⟩
    have hg := hs'.read Reads.here
    have hlt : blk < w.heap.size := (Array.getElem?_eq_some_iff.1 hg).1
    have hfl : ∀ l : List α, (flatK (fun x => (enc x).toList) k l.toArray).toList = flat (l.map enc) := flatK_toList enc k hk
    have hH : HoldsK (fun x => (enc x).toList) k w blk 0 l.toArray := by
      intro j hj
      have hj' : j < l.length * k := by simpa using hj
      have hjc : j < cur.size := by rw [hsz]; exact Nat.lt_of_lt_of_le hj' (Nat.mul_le_mul_right k hnc)
      refine ⟨?_, ?_⟩
      · have e1 := congrArg (·[j]?) (htk.trans (hfl l).symm)
        simp only [List.getElem?_take, hj', if_true, Array.getElem?_toList] at e1
        rw [getElem!_pos _ j hj, Nat.zero_add]
        simp only [World.cell?, hg]
        rw [e1]; simp
      · simp [World.frozen?, hg]
    have hc := AnyQ.slices_SortFunc_total LL k aE zE (fun x => (enc x).toList) (fun x => by simp [hk]) (fun x v hv => h1 x v (by simpa using hv)) cf hO g cb blk 0 cap l.toArray w eg
      (cmpLays_of fun m os dk _ x y => by simpa using hcmp _ x y) hH hlt (by simp; omega) hT
    simp only [List.size_toArray] at hc
    refine hc.mono ?_
    rintro e' w' ⟨rfl, n, os, rfl⟩
    refine ⟨_, _, rfl, ?_, rfl, rfl⟩
    have h3 : Sat w0 (Go.Sort.ahead w n) _ := hs'.ahead n
    have h4 := h3.putRow (off := 0) (d := flatK (fun x => (enc x).toList) k (l.mergeSort fun x y => !(ltOf cf) y x).toArray) 
    have h5 := h4.grow os
    have hln : (l.mergeSort fun x y => !(ltOf cf) y x).length = l.length := List.length_mergeSort _
    refine Sat.ent (w := sortWorldK (fun x => (enc x).toList) k w blk 0 n (l.mergeSort fun x y => !(ltOf cf) y x).toArray os) h5 (Ent.vec_close ?_ ?_ ?_ hnc hcm ?_ ?_)
    · intro x hx; obtain ⟨y, _, rfl⟩ := List.mem_map.1 hx; exact hk y
    · rw [List.length_map, hln]; exact hb
    · rw [List.length_map, hln]
    · rw [size_putCells, hsz]
    · have hs6 : (flatK (fun x => (enc x).toList) k (l.mergeSort fun x y => !(ltOf cf) y x).toArray).size = l.length * k := by simp
      have := take_putCells (c := cur) (d := flatK (fun x => (enc x).toList) k (l.mergeSort fun x y => !(ltOf cf) y x).toArray) (by rw [hs6, hsz]; exact Nat.mul_le_mul_right k hnc)
      rw [hs6, hfl] at this
      exact this
end
end Go.SL
