/-
  HeatColds returns true for every input and leaves its arguments as they were; no further condition.
-/
import Derived.Test.YtcdpiedgfkebcaaRows
import Derived.Test.YtcdpiedgfkebcaaLawA
import Derived.Test.YtcdpiedgfkebcaaBase10
namespace Go.Proofs.Ytcdpiedgfkebcaa
open Go Go.SL Go.ChangeShapes Go.WideShapes Go.ChangeAt Go.RowKit

theorem own_knob : ownKnob Try.prog.godebug = none := by kernel_rfl
theorem laid_out : laidOutB Try.prog = true := by kernel_rfl

theorem list_three {α : Type} {cs : List α} (h : cs.length = 3) : ∃ a b c, cs = [a, b, c] := by
  match cs, h with
  | [a, b, c], _ => exact ⟨a, b, c, rfl⟩
theorem open_heat {H : Type} {enc : TypeId × Value → H} {w : World} {base : Nat} {spare : Nat → Bool} {held : Bool} (cs : List Value) (m : Nat) (y : DataW H × List MemPlace)
    (h : DataW.trod enc Try.prog w base spare held m 37 cs = some y) : ∃ a : Heat, cs = a.cells.toList ∧ True := by
  obtain ⟨y0, y1, y2, n, rfl, hl, h0, h1, h2⟩ := Go.Deep.trod_struct3 Try.underlying37 h
  have c3 : Try.prog.cellsOf 37 = 3 := by kernel_rfl
  have k3 : Try.prog.cellsOf 3 = 1 := by kernel_rfl
  rw [c3] at hl
  obtain ⟨v0, v1, v2, rfl⟩ := list_three hl
  simp only [k3] at h0 h1 h2
  obtain ⟨n0, e0, _, _⟩ := DataW.trod_int Try.underlying3 h0
  obtain ⟨n1, e1, _, _⟩ := DataW.trod_int Try.underlying3 h1
  obtain ⟨n2, e2, _, _⟩ := DataW.trod_int Try.underlying3 h2
  simp at e0 e1 e2
  exact ⟨⟨n0, n1, n2⟩, by simp [Heat.cells, e0, e1, e2], trivial⟩

set_option maxRecDepth 100000 in
theorem heatColds_lifted (os : Os) (started : os.Started) (H : Type) (enc : TypeId × Value → H) :
    ReturnsInHanded {} Try.checked os 3 .any (Rows.heatColdsSpec.pre6 enc Try.prog Try.f3 Rows.heatColdsRow.domain false) (Rows.heatColdsSpec.post enc Try.prog Try.f3 false true false false) := by
  refine returnsInHanded_of_change_sized (C := Try.checked) own_knob started (by kernel_rfl) Try.func3
    (ChangeSpec.witness6 (enc := enc) (C := Try.checked) false ⟨#[], #[.slice none 0 0, .int .i64 0, .int .i64 0], []⟩ 8 (by kernel_rfl) (by kernel_rfl) (by kernel_rfl) (by kernel_rfl)) ?_
  intro W base args ds gs before hval0 hW hcnd hsz0 _
  have hval : ∀ (j : Nat) t v, Try.f3.params[j]? = some t → args[j]? = some v → Value.okWide Try.prog W .any base t v := hval0
  have hsz : (DataW.weightsEach Try.prog (Try.f3.params.toList ++ Rows.heatColdsSpec.plain.varTypes Try.prog) (ds ++ gs)).all (· ≤ reachBytes) = true := hsz0
  have hW' := hW
  obtain ⟨p, q, hA0, hV, rfl, hfz, hnd⟩ := hW
  have hA : DataW.TrodAll enc Try.prog W 0 (fun _ => true) true Try.f3.params.toList args.toList ds p := hA0
  rw [Try.params3] at hA hval hsz
  obtain ⟨v0, vs0, d0, ds0, p0, q0, hargs, rfl, rfl, h0, r0⟩ := trodAll_cons hA
  obtain ⟨v1, vs1, d1, ds1, p1, q1, rfl, rfl, rfl, h1, r1⟩ := trodAll_cons r0
  obtain ⟨v2, vs2, d2, ds2, p2, q2, rfl, rfl, rfl, h2, r2⟩ := trodAll_cons r1
  obtain ⟨rfl, rfl, rfl⟩ := trodAll_nil r2
  obtain rfl : args = #[v0, v1, v2] := by cases args; simp_all
  obtain ⟨rfl, rfl⟩ := trodVars_none hV
  obtain ⟨a0, len0, cap0, rfl⟩ := okWide_slice Try.underlying22 (hval 0 22 v0 rfl rfl)
  have k0 := h0
  have lt0 : ∀ x ∈ p0, x.block < W.heap.size := by obtain ⟨m, hm⟩ := k0; exact DataW.trod_lt m _ _ _ hm
  obtain ⟨a1, rfl, rfl, rfl, w1⟩ := open_int Try.underlying3 (hval 1 3 v1 rfl rfl) h1
  obtain ⟨a2, rfl, rfl, rfl, w2⟩ := open_int Try.underlying3 (hval 2 3 v2 rfl rfl) h2
  obtain ⟨l, hl, _, _⟩ : ∃ l : List Heat, SlC [whole W] a0 3 len0 cap0 (l.map Heat.cells) ∧ (∀ a ∈ l, True) ∧ len0 = l.length := by
    obtain ⟨fuel, hf⟩ := h0
    refine open_slc Heat.cells (fun _ => True) (fun _ => rfl) (by omega) Try.underlying22 (by kernel_rfl) open_heat (by simpa [Value.cells] using hf) ?_
    rintro elems sp rfl
    have h3 := sized_slice hsz (j := 0) (t := 22) (e := 37) rfl rfl Try.underlying22
    have h4 : Try.prog.bytesOf 37 = 24 := by kernel_rfl
    rw [h4] at h3
    have h5 := reachBytes_lt
    omega
  clear hA0 hval0
  refine (Tr.below (v := .bool true) ((law_HeatColds l a1 a2 hl).weaken fun v L' h => ⟨L', Ent.refl _, h.1, h.2.symm⟩)).mono fun e W' ⟨he, bel⟩ => ?_
  subst he
  exact ⟨_, rfl, _, _, _, [], _, [], hW', trodAll_mk1 (shut_bool Try.underlying4 _), (trodAll_cons_mk (Below.trod laid_out (by kernel_rfl) (of_decide_eq_true (by kernel_rfl)) k0 bel lt0) (trodAll_cons_mk (shut_int Try.underlying3 w1) (trodAll_cons_mk (shut_int Try.underlying3 w2) trodAll_mk0))), rfl, bel.frame _, fun h => by cases h⟩

theorem heatColds_holds : Rows.HeatColdsSaid :=
  OpenClaim.holds_of_wide 3 Try.f3 rfl rfl rfl rfl rfl rfl rfl ⟨rfl, rfl, rfl, rfl, rfl⟩ rfl rfl rfl rfl rfl (by kernel_rfl) Try.func3 (by kernel_rfl)
    (of_decide_eq_true (by kernel_rfl)) (by unfold Func.isWrapper; first | (rw [if_pos (by decide +kernel)]; kernel_rfl) | (rw [if_neg (by decide +kernel)]; exact ⟨rfl, rfl⟩))
    (fun os started H enc _ => heatColds_lifted os started H enc)
#print axioms heatColds_holds
end Go.Proofs.Ytcdpiedgfkebcaa
