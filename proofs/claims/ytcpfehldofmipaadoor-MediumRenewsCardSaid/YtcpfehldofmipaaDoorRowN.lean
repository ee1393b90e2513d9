/-
  MediumRenews returns true for every input and leaves its arguments as they were, whatever memory it is called in; crc.halves, which it reads, is tied to the program's text; no further condition.
-/
import Derived.Test.YtcpfehldofmipaaDoorHalves
import Derived.Test.YtcpfehldofmipaaDoorLawN
import Derived.Test.YtcpfehldofmipaaDoorCards
import Derived.Test.YtcpfehldofmipaaDoorTie
namespace Go.Proofs.YtcpfehldofmipaaDoor
open Go Go.SL Go.ChangeShapes Go.WideShapes Go.ChangeAt Go.RowKit Go.Joins

set_option maxRecDepth 100000 in
theorem mediumRenews_lifted (os : Os) (started : os.Started) (H : Type) (enc : TypeId × Value → H) :
    ReturnsInHanded {} Tryd.checked os 5 .any (fun w args => (Rows.mediumRenewsSpec.pre enc Tryd.prog Tryd.f5 [] false w args ∧ laidMetH Tryd.prog halvesLaid w) ∧ sizedMet enc Tryd.prog Tryd.f5 (OpenSpec.ofChange Rows.mediumRenewsSpec) false w args)
      (Rows.mediumRenewsSpec.post enc Tryd.prog Tryd.f5 false true false false) := by
  refine returnsInHanded_of_change_and (C := Tryd.checked) (X := fun w _ => laidMetH Tryd.prog halvesLaid w) (fun _ _ _ hh h => h.of_heap hh) own_knob started (by kernel_rfl) Tryd.func5
    (ChangeSpec.witness_shaped (enc := enc) (C := Tryd.checked) (os := os) (X := fun w _ => laidMetH Tryd.prog halvesLaid w) false (World.doorLaid Tryd.prog 400 os) #[.slice none 0 0, .int .u8 0, .slice none 0 0] 20 rfl (World.shaped_of_RefB (by kernel_rfl) (by kernel_rfl)) (by kernel_rfl) (by kernel_rfl) (by kernel_rfl) (door_met os _)) ?_
  intro W base args ds gs before hval0 hW _ hsz0 hL _
  have hval : ∀ (j : Nat) t v, Tryd.f5.params[j]? = some t → args[j]? = some v → Value.okWide Tryd.prog W .any base t v := hval0
  have hsz : (DataW.weightsEach Tryd.prog (Tryd.f5.params.toList ++ Rows.mediumRenewsSpec.plain.varTypes Tryd.prog) (ds ++ gs)).all (· ≤ reachBytes) = true := hsz0
  have hW' := hW
  obtain ⟨p, q, hA0, hV, rfl, hfz, hnd⟩ := hW
  have hA : DataW.TrodAll enc Tryd.prog W 0 (fun _ => true) true Tryd.f5.params.toList args.toList ds p := hA0
  rw [Tryd.params5] at hA hval hsz
  obtain ⟨v0, vs0, d0, ds0, p0, q0, hargs, rfl, rfl, h0, r0⟩ := trodAll_cons hA
  obtain ⟨v1, vs1, d1, ds1, p1, q1, rfl, rfl, rfl, h1, r1⟩ := trodAll_cons r0
  obtain ⟨v2, vs2, d2, ds2, p2, q2, rfl, rfl, rfl, h2, r2⟩ := trodAll_cons r1
  obtain ⟨rfl, rfl, rfl⟩ := trodAll_nil r2
  obtain rfl : args = #[v0, v1, v2] := by cases args; simp_all
  obtain ⟨rfl, rfl⟩ := trodVars_none hV
  have k0 := h0
  have lt0 : ∀ x ∈ p0, x.block < W.heap.size := by obtain ⟨m, hm⟩ := k0; exact DataW.trod_lt m _ _ _ hm
  obtain ⟨a0, len0, cap0, rfl⟩ := okWide_slice Tryd.underlying38 (hval 0 _ v0 rfl rfl)
  obtain ⟨xs, hl0, w0, _⟩ : ∃ l : List Int, SlC [whole W] a0 1 len0 cap0 (l.map fun z => #[.int .u16 z]) ∧ (∀ z ∈ l, (Lit.int .u16 z).wf = true) ∧ len0 = l.length := by
    obtain ⟨fuel, hf⟩ := h0
    refine open_ints Tryd.underlying38 Tryd.underlying46 (by kernel_rfl) (by simpa [Value.cells] using hf) ?_
    rintro elems sp rfl
    have h3 := sized_slice hsz (j := 0) (t := 38) (e := 46) rfl rfl Tryd.underlying38
    have h4 : Tryd.prog.bytesOf 46 = 2 := by kernel_rfl
    rw [h4] at h3
    have h5 := reachBytes_lt
    omega
  obtain ⟨tm, rfl, rfl, rfl, w1⟩ := open_int Tryd.underlying5 (hval 1 _ v1 rfl rfl) h1
  have k2 := h2
  have lt2 : ∀ x ∈ p2, x.block < W.heap.size := by obtain ⟨m, hm⟩ := k2; exact DataW.trod_lt m _ _ _ hm
  obtain ⟨a2, len2, cap2, rfl⟩ := okWide_slice Tryd.underlying39 (hval 2 _ v2 rfl rfl)
  obtain ⟨ys, hl2, w2, _⟩ : ∃ l : List Int, SlC [whole W] a2 1 len2 cap2 (l.map fun z => #[.int .i64 z]) ∧ (∀ z ∈ l, (Lit.int .i64 z).wf = true) ∧ len2 = l.length := by
    obtain ⟨fuel, hf⟩ := h2
    refine open_ints Tryd.underlying39 Tryd.underlying3 (by kernel_rfl) (by simpa [Value.cells] using hf) ?_
    rintro elems sp rfl
    have h3 := sized_slice hsz (j := 2) (t := 39) (e := 3) rfl rfl Tryd.underlying39
    have h4 : Tryd.prog.bytesOf 3 = 8 := by kernel_rfl
    rw [h4] at h3
    have h5 := reachBytes_lt
    omega
  have hC := halves_of_laid hL
  clear hA0 hval0
  refine (Tr.below (v := .bool true) ((law_MediumRenews xs ys tm (wf_u8 w1) (fun z hz => wf_u16 (w0 z hz)) (ha := hl0) (hf := hl2) (L := [whole W])).weaken fun v L' h => ⟨L', Ent.refl _, h.1, h.2.symm⟩)).mono fun e W' ⟨he, bel⟩ => ?_
  subst he
  exact ⟨_, rfl, _, _, _, [], _, [], hW', trodAll_mk1 (shut_bool Tryd.underlying4 _), (trodAll_cons_mk (Below.trod laid_out (by kernel_rfl) (of_decide_eq_true (by kernel_rfl)) k0 bel lt0) (trodAll_cons_mk (shut_int Tryd.underlying5 w1) (trodAll_cons_mk (Below.trod laid_out (by kernel_rfl) (of_decide_eq_true (by kernel_rfl)) k2 bel lt2) trodAll_mk0))), rfl, bel.frame _, fun h => by cases h⟩

theorem mediumRenews_row : Rows.MediumRenewsSaid :=
  OpenClaim.holds_of_wide 5 Tryd.f5 rfl rfl rfl rfl rfl rfl rfl ⟨rfl, rfl, rfl, rfl, rfl⟩ rfl rfl rfl rfl rfl (by kernel_rfl) Tryd.func5 (by kernel_rfl)
    (of_decide_eq_true (by kernel_rfl)) (by unfold Func.isWrapper; first | (rw [if_pos (by decide +kernel)]; kernel_rfl) | (rw [if_neg (by decide +kernel)]; exact ⟨rfl, rfl⟩))
    (fun os started H enc _ => mediumRenews_lifted os started H enc)

theorem mediumRenews_holds : Rows.MediumRenewsCardSaid :=
  Claim7.holds_tied_plain_at .later [] [.data] true (true, "77fb69114184a0e822369bb1bb624b03a9f73c3b95f2c8139e492fdefdab7337") false
    mediumRenews_row (fun _ h => by cases h) (by kernel_rfl) (fun _ h => by cases h) mediumRenews_row_tie rfl ⟨rfl, rfl⟩ (by kernel_rfl) rfl
    (fun f fn hf hfn => by
      obtain rfl : f = 5 := Option.some.inj ((show Tryd.prog.funcNamed "haymow/haymowlaw21.MediumRenews" = some 5 by kernel_rfl).symm.trans hf) |>.symm
      obtain rfl : fn = Tryd.f5 := (Option.some.inj (Tryd.func5.symm.trans hfn)).symm
      exact ⟨by kernel_rfl, fun j t ht => by
        rw [Tryd.params5] at ht
        have hm : t ∈ [38, 5, 39] := by simpa using Array.mem_of_getElem? ht
        have hall : ([38, 5, 39].all fun u => !Tryd.prog.wantsStandIn u) = true := by kernel_rfl
        exact (show Tryd.prog.wantsStandIn t = false by simpa using List.all_eq_true.1 hall t hm)⟩)
    (by kernel_rfl)
#print axioms mediumRenews_holds
end Go.Proofs.YtcpfehldofmipaaDoor
