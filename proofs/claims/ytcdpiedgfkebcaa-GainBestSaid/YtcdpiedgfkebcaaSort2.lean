/-
  The library's sort at one cell, where the comparison reads what the caller holds.
-/
import Derived.Test.YtcdpiedgfkebcaaSort
namespace Go.SL
open Go Go.Proofs Go.Shelf Go.RowKit Go.Lib Go.Sort

theorem Sat.putRowE {α : Type} [Inhabited α] (enc : α → Value) {w0 w : World} {F : List HP} {blk off : Nat} {cur : Array Value} {e : TypeId} {d : Array α} (h : Sat w0 w (pt blk (.cells cur e) :: F)) :
    Sat w0 (Go.Sort.putRow enc w blk off d) (pt blk (.cells (putCells enc off d cur) e) :: F) := by
  have hg := h.read Reads.here
  refine h.set Upd.here rfl rfl rfl rfl ?_
  have hlt : blk < w.heap.size := (Array.getElem?_eq_some_iff.1 hg).1
  apply Array.ext_getElem?
  intro i
  simp only [Go.Sort.putRow, mapBlock, Array.getElem?_modify, Array.getElem?_setIfInBounds]
  by_cases hi : blk = i
  · subst hi; simp only [if_true, hg, Option.map_some, onCells, hlt]
  · simp [hi]

theorem take_putCellsE {α : Type} [Inhabited α] (enc : α → Value) {c : Array Value} {d : Array α} (h : d.size ≤ c.size) : (putCells enc 0 d c).toList.take d.size = d.toList.map enc := by
  apply List.ext_getElem?
  intro t
  rw [List.getElem?_take]
  by_cases ht : t < d.size
  · have htc : t < c.size := by omega
    simp [putCells, ht, htc]
  · simp [ht]
theorem flat_ones {α : Type} (enc : α → Value) (l : List α) : flat (l.map fun x => #[enc x]) = l.map enc := by
  induction l with
  | nil => rfl
  | cons x l ih => simp only [flat, List.map_cons, List.flatMap_cons] at ih ⊢; rw [ih]; rfl

section
variable {P : Program} {α : Type} [Inhabited α]

theorem sort_nil {e k : Nat} {ρ : Ren} (LL : SlLaysF0.n6 P ρ) (fv v : Value) (F : List HP) :
    Tr P (ρ.f 6) #[v, fv] (vec e k [] v :: F) (fun r L' => r = .tuple #[] ∧ vec e k [] v :: F = L') := .mk fun w0 w hs => by
  obtain ⟨p, cap, rfl, hq⟩ := vec_fact hs.own
  refine (AnyF.slices_SortFunc_none LL p cap fv w).mono ?_
  rintro e' w' ⟨rfl, rfl⟩
  exact ⟨_, _, rfl, hs, rfl, rfl⟩

theorem sort_vec1 {e : TypeId} {ρ : Ren} (LL : SlLaysF.n6 P ρ) (enc : α → Value) (h1 : OneCell enc) (cf : α → α → Int) (hO : SWO (ltOf cf)) (hT : ∀ x y, (ltOf cf) x y = false → (ltOf cf) y x = false → x = y) (g : Nat) (cb : Array Value)
    (eg : ∀ args w, (callFunc g args).run P w = .ok (.enter g args) w) (l : List α) (v : Value) (F : List HP)
    (hcmp : ∀ (w0 W : World) (q : HP), Sat w0 W (q :: F) → ∀ x y : α, Tr P g (#[enc x, enc y] ++ cb) [whole W] (fun v L' => v = .int .i64 (cf x y) ∧ [whole W] = L')) :
    Tr P (ρ.f 6) #[v, .func (.func g) #[] cb] (vec e 1 (l.map fun x => #[enc x]) v :: F) (fun r L' => r = .tuple #[] ∧ vec e 1 ((l.mergeSort fun x y => !(ltOf cf) y x).map fun x => #[enc x]) v :: F = L') := by
  by_cases hl0 : l = []
  · subst hl0
    simp only [List.map_nil, List.mergeSort_nil]
    exact sort_nil (e := e) (k := 1) { LL with } _ v F
  refine .mk fun w0 w hs => ?_
  obtain ⟨hke, hb, hv⟩ := vec_open hs.own
  rw [List.length_map] at hb hv
  rcases hv with ⟨rfl, hl⟩ | ⟨blk, cap, cur, rfl, hnc, hcm, hsz, htk, H⟩
  · exact absurd (List.map_eq_nil_iff.1 hl) hl0
  · have hs' : Sat w0 w (pt blk (.cells cur e) :: F) := ⟨hs.os, hs.tape, hs.output, hs.size, hs.drawn, H⟩
    have hg := hs'.read Reads.here
    have hlt : blk < w.heap.size := (Array.getElem?_eq_some_iff.1 hg).1
    rw [flat_ones, Nat.mul_one] at htk
    rw [Nat.mul_one] at hsz
    have hH : Holds enc w blk 0 l.toArray := by
      intro j hj
      have hj' : j < l.length := by simpa using hj
      refine ⟨?_, ?_⟩
      · have e1 := congrArg (·[j]?) htk
        simp only [List.getElem?_take, hj', if_true, Array.getElem?_toList] at e1
        rw [Nat.zero_add]
        simp only [World.cell?, hg]
        rw [e1]; simp [hj']
      · simp [World.frozen?, hg]
    have satW : ∀ (m : Nat) (os : Array Obj) (dk : Array α), Sat w0 (sortWorld enc w blk 0 m dk os) (pt blk (.cells (putCells enc 0 dk cur) e) :: F) := fun m os dk => ((hs'.ahead m).putRowE enc (off := 0) (d := dk)).grow os
    have hc := Any.slices_SortFunc_total LL enc h1 cf hO g cb blk 0 cap l.toArray w eg
      (fun m os dk _ x y => ((hcmp w0 _ _ (satW m os dk) x y).h _ _ (Sat.start _)).mono fun e' w' ⟨v, L', he, hs2, hv, hL⟩ => by
        subst hL; subst hv; exact ⟨he, sat_grow hs2⟩) hH hlt (by simp; omega) hT
    simp only [List.size_toArray] at hc
    refine hc.mono ?_
    rintro e' w' ⟨rfl, n, os, rfl⟩
    refine ⟨_, _, rfl, ?_, rfl, rfl⟩
    have hln : (l.mergeSort fun x y => !(ltOf cf) y x).length = l.length := List.length_mergeSort _
    refine Sat.ent (satW n os (l.mergeSort fun x y => !(ltOf cf) y x).toArray) (Ent.vec_close ?_ ?_ ?_ hnc hcm ?_ ?_)
    · intro x hx; obtain ⟨y, _, rfl⟩ := List.mem_map.1 hx; rfl
    · rw [List.length_map, hln]; exact hb
    · rw [List.length_map, hln]
    · rw [size_putCells, hsz, Nat.mul_one]
    · have := take_putCellsE enc (c := cur) (d := (l.mergeSort fun x y => !(ltOf cf) y x).toArray) (by simp; omega)
      rw [flat_ones, Nat.mul_one]
      simpa using this
end

/-- what the caller holds, in the world as a whole -/
theorem reads_whole {w0 W : World} {q : HP} {F : List HP} {b : Nat} {o : Obj} (h : ReadC F b o) (hs : Sat w0 W (q :: F)) : ReadC [whole W] b o := ⟨Reads.whole (hs.read (Reads.there h.h))⟩
theorem slc_whole {w0 W : World} {q : HP} {F : List HP} {p : Option Addr} {k n cap : Nat} {els : List (Array Value)} (h : SlC F p k n cap els) (hs : Sat w0 W (q :: F)) : SlC [whole W] p k n cap els :=
  ⟨h.len, h.le, h.bd, h.ptr, fun g hg i hi => by
    obtain ⟨a, r, hsp, _, hF⟩ := own_cons.1 hs.own
    obtain ⟨b, off, c, T, fr, h1, h2, h3⟩ := h.at_ r hF i hi
    have h4 : W.heap[b]? = some (.cells c T fr) := by have := hsp b; simp_all
    exact ⟨b, off, c, T, fr, h1, Reads.own (Reads.whole h4) hg, h3⟩⟩
end Go.SL
