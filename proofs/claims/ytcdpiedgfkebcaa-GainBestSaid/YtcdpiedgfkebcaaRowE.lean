/-
  GainBest returns true for every input and leaves its arguments as they were; no further condition.
-/
import Derived.Test.YtcdpiedgfkebcaaRows
import Derived.Test.YtcdpiedgfkebcaaLawE
import Derived.Test.YtcdpiedgfkebcaaRowC
namespace Go.Proofs.Ytcdpiedgfkebcaa
open Go Go.SL Go.ChangeShapes Go.WideShapes Go.ChangeAt Go.RowKit Go.Joins

set_option maxRecDepth 100000 in
theorem open_use_el {H : Type} {enc : TypeId × Value → H} {w : World} {base : Nat} {spare : Nat → Bool} {held : Bool} (cs : List Value) (m : Nat) (y : DataW H × List MemPlace)
    (h : DataW.trod enc Try.prog w base spare held m 40 cs = some y) : ∃ a : Use, cs = a.cells.toList ∧ True := by
  obtain ⟨y0, y1, n, rfl, hl, h0, h1⟩ := trod_struct2 Try.underlying40 h
  have c2 : Try.prog.cellsOf 40 = 2 := by kernel_rfl
  have k3 : Try.prog.cellsOf 3 = 1 := by kernel_rfl
  rw [c2] at hl
  obtain ⟨v0, v1, rfl⟩ : ∃ a b, cs = [a, b] := by
    match cs, hl with
    | [a, b], _ => exact ⟨a, b, rfl⟩
  simp only [k3] at h0 h1
  obtain ⟨n0, e0, _, _⟩ := DataW.trod_int Try.underlying3 h0
  obtain ⟨n1, e1, _, _⟩ := DataW.trod_int Try.underlying3 h1
  simp at e0 e1
  exact ⟨⟨n0, n1⟩, by simp [Use.cells, e0, e1], trivial⟩
theorem open_int_el {H : Type} {enc : TypeId × Value → H} {w : World} {base : Nat} {spare : Nat → Bool} {held : Bool} (cs : List Value) (m : Nat) (y : DataW H × List MemPlace)
    (h : DataW.trod enc Try.prog w base spare held m 3 cs = some y) : ∃ a : Int, cs = (#[Value.int .i64 a] : Array Value).toList ∧ True := by
  obtain ⟨n0, e0, _, _⟩ := DataW.trod_int Try.underlying3 h
  exact ⟨n0, e0, trivial⟩

set_option maxRecDepth 100000 in
theorem gainBest_lifted (os : Os) (started : os.Started) (H : Type) (enc : TypeId × Value → H) :
    ReturnsInHanded {} Try.checked os 8 .any (Rows.gainBestSpec.pre6 enc Try.prog Try.f8 Rows.gainBestRow.domain false) (Rows.gainBestSpec.post enc Try.prog Try.f8 false true false false) := by
  refine returnsInHanded_of_change_sized (C := Try.checked) own_knob18 started (by kernel_rfl) Try.func8
    (ChangeSpec.witness6 (enc := enc) (C := Try.checked) false ⟨#[], #[.slice none 0 0, .slice none 0 0, .int .i64 0], []⟩ 8 (by kernel_rfl) (by kernel_rfl) (by kernel_rfl) (by kernel_rfl)) ?_
  intro W base args ds gs before hval0 hW hcnd hsz0 _
  have hval : ∀ (j : Nat) t v, Try.f8.params[j]? = some t → args[j]? = some v → Value.okWide Try.prog W .any base t v := hval0
  have hsz : (DataW.weightsEach Try.prog (Try.f8.params.toList ++ Rows.gainBestSpec.plain.varTypes Try.prog) (ds ++ gs)).all (· ≤ reachBytes) = true := hsz0
  have hW' := hW
  obtain ⟨p, q, hA0, hV, rfl, hfz, hnd⟩ := hW
  have hA : DataW.TrodAll enc Try.prog W 0 (fun _ => true) true Try.f8.params.toList args.toList ds p := hA0
  rw [Try.params8] at hA hval hsz
  obtain ⟨v0, vs0, d0, ds0, p0, q0, hargs, rfl, rfl, h0, r0⟩ := trodAll_cons hA
  obtain ⟨v1, vs1, d1, ds1, p1, q1, rfl, rfl, rfl, h1, r1⟩ := trodAll_cons r0
  obtain ⟨v2, vs2, d2, ds2, p2, q2, rfl, rfl, rfl, h2, r2⟩ := trodAll_cons r1
  obtain ⟨rfl, rfl, rfl⟩ := trodAll_nil r2
  obtain rfl : args = #[v0, v1, v2] := by cases args; simp_all
  obtain ⟨rfl, rfl⟩ := trodVars_none hV
  obtain ⟨a0, len0, cap0, rfl⟩ := okWide_slice Try.underlying47 (hval 0 47 v0 rfl rfl)
  obtain ⟨a1, len1, cap1, rfl⟩ := okWide_slice Try.underlying48 (hval 1 48 v1 rfl rfl)
  have k0 := h0
  have k1 := h1
  have lt0 : ∀ x ∈ p0, x.block < W.heap.size := by obtain ⟨m, hm⟩ := k0; exact DataW.trod_lt m _ _ _ hm
  have lt1 : ∀ x ∈ p1, x.block < W.heap.size := by obtain ⟨m, hm⟩ := k1; exact DataW.trod_lt m _ _ _ hm
  obtain ⟨a2, rfl, rfl, rfl, w2⟩ := open_int Try.underlying3 (hval 2 3 v2 rfl rfl) h2
  have h5 := reachBytes_lt
  obtain ⟨l, hl, _, _⟩ : ∃ l : List Use, SlC [whole W] a0 2 len0 cap0 (l.map Use.cells) ∧ (∀ a ∈ l, True) ∧ len0 = l.length := by
    obtain ⟨fuel, hf⟩ := h0
    haveI : Inhabited Use := ⟨⟨0, 0⟩⟩
    refine open_slc Use.cells (fun _ => True) (fun _ => rfl) (by omega) Try.underlying47 (by kernel_rfl) open_use_el (by simpa [Value.cells] using hf) ?_
    rintro elems sp rfl
    have h3 := sized_slice hsz (j := 0) (t := 47) (e := 40) rfl rfl Try.underlying47
    have h4 : Try.prog.bytesOf 40 = 16 := by kernel_rfl
    rw [h4] at h3
    omega
  obtain ⟨bz, hq, _, _⟩ : ∃ l : List Int, SlC [whole W] a1 1 len1 cap1 (l.map fun z => #[Value.int .i64 z]) ∧ (∀ a ∈ l, True) ∧ len1 = l.length := by
    obtain ⟨fuel, hf⟩ := h1
    refine open_slc (k := 1) (fun z => #[Value.int .i64 z]) (fun _ => True) (fun _ => rfl) (by omega) Try.underlying48 (by kernel_rfl) open_int_el (by simpa [Value.cells] using hf) ?_
    rintro elems sp rfl
    have h3 := sized_slice hsz (j := 1) (t := 48) (e := 3) rfl rfl Try.underlying48
    have h4 : Try.prog.bytesOf 3 = 8 := by kernel_rfl
    rw [h4] at h3
    omega
  clear hA0 hval0
  refine (Tr.below (v := .bool true) ((law_GainBest l bz a2 hl hq).weaken fun v L' h => ⟨L', Ent.refl _, h.1, h.2.symm⟩)).mono fun e W' ⟨he, bel⟩ => ?_
  subst he
  exact ⟨_, rfl, _, _, _, [], _, [], hW', trodAll_mk1 (shut_bool Try.underlying4 _), (trodAll_cons_mk (Below.trod laid_out18 (by kernel_rfl) (of_decide_eq_true (by kernel_rfl)) k0 bel lt0) (trodAll_cons_mk (Below.trod laid_out18 (by kernel_rfl) (of_decide_eq_true (by kernel_rfl)) k1 bel lt1) (trodAll_cons_mk (shut_int Try.underlying3 w2) trodAll_mk0))), rfl, bel.frame _, fun h => by cases h⟩

theorem gainBest_holds : Rows.GainBestSaid :=
  OpenClaim.holds_of_wide 8 Try.f8 rfl rfl rfl rfl rfl rfl rfl ⟨rfl, rfl, rfl, rfl, rfl⟩ rfl rfl rfl rfl rfl (by kernel_rfl) Try.func8 (by kernel_rfl)
    (of_decide_eq_true (by kernel_rfl)) (by unfold Func.isWrapper; first | (rw [if_pos (by decide +kernel)]; kernel_rfl) | (rw [if_neg (by decide +kernel)]; exact ⟨rfl, rfl⟩))
    (fun os started H enc _ => gainBest_lifted os started H enc)
#print axioms gainBest_holds
end Go.Proofs.Ytcdpiedgfkebcaa
