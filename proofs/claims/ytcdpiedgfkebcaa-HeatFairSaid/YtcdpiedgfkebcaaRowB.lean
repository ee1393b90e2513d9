/-
  HeatFair returns true for every input and leaves its argument as it was; no further condition.
-/
import Derived.Test.YtcdpiedgfkebcaaRows
import Derived.Test.YtcdpiedgfkebcaaLawB
import Derived.Test.YtcdpiedgfkebcaaRowA
import Derived.Lib.SmallJoins
namespace Go.Proofs.Ytcdpiedgfkebcaa
open Go Go.SL Go.ChangeShapes Go.WideShapes Go.ChangeAt Go.RowKit Go.Joins

set_option maxRecDepth 100000 in
theorem heatFair_lifted (os : Os) (started : os.Started) (H : Type) (enc : TypeId × Value → H) :
    ReturnsInHanded {} Try.checked os 4 .any (Rows.heatFairSpec.pre6 enc Try.prog Try.f4 Rows.heatFairRow.domain false) (Rows.heatFairSpec.post enc Try.prog Try.f4 false true false false) := by
  refine returnsInHanded_of_change_sized (C := Try.checked) own_knob started (by kernel_rfl) Try.func4
    (ChangeSpec.witness6 (enc := enc) (C := Try.checked) false ⟨#[], #[.agg #[.slice none 0 0, .int .i64 0, .int .i64 0, .int .i64 0]], []⟩ 8 (by kernel_rfl) (by kernel_rfl) (by kernel_rfl) (by kernel_rfl)) ?_
  intro W base args ds gs before hval0 hW hcnd hsz0 _
  have hval : ∀ (j : Nat) t v, Try.f4.params[j]? = some t → args[j]? = some v → Value.okWide Try.prog W .any base t v := hval0
  have hsz : (DataW.weightsEach Try.prog (Try.f4.params.toList ++ Rows.heatFairSpec.plain.varTypes Try.prog) (ds ++ gs)).all (· ≤ reachBytes) = true := hsz0
  have hW' := hW
  obtain ⟨p, q, hA0, hV, rfl, hfz, hnd⟩ := hW
  have hA : DataW.TrodAll enc Try.prog W 0 (fun _ => true) true Try.f4.params.toList args.toList ds p := hA0
  rw [Try.params4] at hA hval hsz
  obtain ⟨v0, vs0, d0, ds0, p0, q0, hargs, rfl, rfl, h0, r0⟩ := trodAll_cons hA
  obtain ⟨rfl, rfl, rfl⟩ := trodAll_nil r0
  obtain rfl : args = #[v0] := by cases args; simp_all
  obtain ⟨rfl, rfl⟩ := trodVars_none hV
  have k0 := h0
  have lt0 : ∀ x ∈ p0, x.block < W.heap.size := by obtain ⟨m, hm⟩ := k0; exact DataW.trod_lt m _ _ _ hm
  obtain ⟨c0, c1, c2, c3, y0, y1, y2, y3, fu, rfl, hd, hp0, g0, g1, g2, g3⟩ := open_agg4 Try.underlying34 (by kernel_rfl) (by kernel_rfl) (hval 0 34 v0 rfl rfl) h0
  obtain ⟨a0, len0, cap0, hc0⟩ := slice_form Try.underlying22 g0
  obtain rfl : c0 = .slice a0 len0 cap0 := by simpa using hc0
  obtain ⟨a1, e1, _, w1⟩ := DataW.trod_int Try.underlying3 g1
  obtain rfl : c1 = .int .i64 a1 := by simpa using e1
  obtain ⟨a2, e2, _, w2⟩ := DataW.trod_int Try.underlying3 g2
  obtain rfl : c2 = .int .i64 a2 := by simpa using e2
  obtain ⟨a3, e3, _, w3⟩ := DataW.trod_int Try.underlying3 g3
  obtain rfl : c3 = .int .i64 a3 := by simpa using e3
  obtain ⟨l, hl, _, _⟩ : ∃ l : List Heat, SlC [whole W] a0 3 len0 cap0 (l.map Heat.cells) ∧ (∀ a ∈ l, True) ∧ len0 = l.length := by
    refine open_slc Heat.cells (fun _ => True) (fun _ => rfl) (by omega) Try.underlying22 (by kernel_rfl) open_heat g0 ?_
    intro elems sp hes
    subst hd
    have h3 := List.all_eq_true.1 hsz _ (DataW.weights_mem_each (j := 0) (t := 34) rfl rfl ((elems.length + sp.length) * Try.prog.bytesOf 37) (by simp [DataW.weights, DataW.weightsEach, Try.underlying34, Try.underlying22, hes]))
    have h4 : Try.prog.bytesOf 37 = 24 := by kernel_rfl
    rw [h4] at h3
    have h5 := reachBytes_lt
    simp only [decide_eq_true_eq] at h3
    omega
  clear hA0 hval0
  have w3' : -9223372036854775808 ≤ a3 ∧ a3 ≤ 9223372036854775807 := by simpa [Lit.wf, IntKind.min, IntKind.max, IntKind.signed, IntKind.bits] using w3
  refine (Tr.below (v := .bool true) ((law_HeatFair l a1 a2 a3 w3' hl).weaken fun v L' h => ⟨L', Ent.refl _, h.1, h.2.symm⟩)).mono fun e W' ⟨he, bel⟩ => ?_
  subst he
  exact ⟨_, rfl, _, _, _, [], _, [], hW', trodAll_mk1 (shut_bool Try.underlying4 _), (trodAll_cons_mk (Below.trod laid_out (by kernel_rfl) (of_decide_eq_true (by kernel_rfl)) k0 bel lt0) trodAll_mk0), rfl, bel.frame _, fun h => by cases h⟩

theorem heatFair_holds : Rows.HeatFairSaid :=
  OpenClaim.holds_of_wide 4 Try.f4 rfl rfl rfl rfl rfl rfl rfl ⟨rfl, rfl, rfl, rfl, rfl⟩ rfl rfl rfl rfl rfl (by kernel_rfl) Try.func4 (by kernel_rfl)
    (of_decide_eq_true (by kernel_rfl)) (by unfold Func.isWrapper; first | (rw [if_pos (by decide +kernel)]; kernel_rfl) | (rw [if_neg (by decide +kernel)]; exact ⟨rfl, rfl⟩))
    (fun os started H enc _ => heatFair_lifted os started H enc)
#print axioms heatFair_holds
end Go.Proofs.Ytcdpiedgfkebcaa
