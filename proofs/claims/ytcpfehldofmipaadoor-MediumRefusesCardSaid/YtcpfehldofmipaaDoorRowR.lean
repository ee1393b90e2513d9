/-
  MediumRefuses returns true for every input and leaves its argument as it was, whatever memory it is called in; crc.halves, which it reads, is tied to the program's text; no further condition.
-/
import Derived.Test.YtcpfehldofmipaaDoorHalves
import Derived.Test.YtcpfehldofmipaaDoorLawR
import Derived.Test.YtcpfehldofmipaaDoorCards
import Derived.Test.YtcpfehldofmipaaDoorTie
namespace Go.Proofs.YtcpfehldofmipaaDoor
open Go Go.SL Go.ChangeShapes Go.WideShapes Go.ChangeAt Go.RowKit Go.Joins

theorem four_of {α : Type} {l : List α} (h : l.length = 4) : ∃ a b c d, l = [a, b, c, d] := by
  match l, h with
  | [a, b, c, d], _ => exact ⟨a, b, c, d, rfl⟩
theorem seven_of {α : Type} {l : List α} (h : l.length = 7) : ∃ a b c d e f g, l = [a, b, c, d, e, f, g] := by
  match l, h with
  | [a, b, c, d, e, f, g], _ => exact ⟨a, b, c, d, e, f, g, rfl⟩
theorem wf_u8 {n : Int} (h : (Lit.int .u8 n).wf = true) : 0 ≤ n ∧ n ≤ 255 := by
  simpa [Lit.wf, IntKind.min, IntKind.max, IntKind.signed, IntKind.bits] using h

set_option maxRecDepth 100000 in
theorem open_geo {H : Type} {enc : TypeId × Value → H} {w : World} {base : Nat} {spare : Nat → Bool} {held : Bool} (cs : List Value) (m : Nat) (y : DataW H × List MemPlace)
    (h : DataW.trod enc Tryd.prog w base spare held m 23 cs = some y) : ∃ a : Geo, cs = a.cells.toList := by
  obtain ⟨y0, y1, y2, y3, n, rfl, hl, h0, h1, h2, h3⟩ := trod_struct4 Tryd.underlying23 h
  have c4 : Tryd.prog.cellsOf 23 = 4 := by kernel_rfl
  have k3 : Tryd.prog.cellsOf 3 = 1 := by kernel_rfl
  rw [c4] at hl
  obtain ⟨v0, v1, v2, v3, rfl⟩ := four_of hl
  simp only [k3] at h0 h1 h2 h3
  obtain ⟨n0, e0, _, _⟩ := DataW.trod_int Tryd.underlying3 h0
  obtain ⟨n1, e1, _, _⟩ := DataW.trod_int Tryd.underlying3 h1
  obtain ⟨n2, e2, _, _⟩ := DataW.trod_int Tryd.underlying3 h2
  obtain ⟨n3, e3, _, _⟩ := DataW.trod_int Tryd.underlying3 h3
  simp at e0 e1 e2 e3
  exact ⟨⟨n0, n1, n2, n3⟩, by simp [Geo.cells, e0, e1, e2, e3]⟩

set_option maxRecDepth 100000 in
theorem open_refuse {H : Type} {enc : TypeId × Value → H} {w : World} {base : Nat} {spare : Nat → Bool} {held : Bool} {r : Reach} {b0 : Nat} {v : Value} {d : DataW H} {p : List MemPlace} (hv : Value.okWide Tryd.prog w r b0 25 v)
    (h : DataW.Trod enc Tryd.prog w base spare held 25 v d p) : ∃ (g : Geo) (D V S : Int), v = .agg (refuse g D V S) ∧ (0 ≤ D ∧ D ≤ 255) ∧ (0 ≤ V ∧ V ≤ 255) ∧ 0 ≤ S ∧ S ≤ 255 := by
  obtain ⟨cs, rfl, hcs⟩ := okWide_struct Tryd.underlying25 hv
  obtain ⟨fuel, hf⟩ := h
  obtain ⟨y0, y1, y2, y3, n, _, hl, h0, h1, h2, h3⟩ := trod_struct4 Tryd.underlying25 hf
  have c7 : Tryd.prog.cellsOf 25 = 7 := by kernel_rfl
  have c4 : Tryd.prog.cellsOf 23 = 4 := by kernel_rfl
  have c1 : Tryd.prog.cellsOf 5 = 1 := by kernel_rfl
  rw [c7] at hl
  have hce : (Value.agg cs).cells = cs := rfl
  rw [hce] at h0 h1 h2 h3 hl
  obtain ⟨l⟩ := cs
  obtain ⟨v0, v1, v2, v3, v4, v5, v6, rfl⟩ := seven_of hl
  simp only [c4, c1] at h0 h1 h2 h3
  obtain ⟨g, e0⟩ := open_geo _ _ _ h0
  obtain ⟨D, e1, _, w1⟩ := DataW.trod_int Tryd.underlying5 h1
  obtain ⟨V, e2, _, w2⟩ := DataW.trod_int Tryd.underlying5 h2
  obtain ⟨S, e3, _, w3⟩ := DataW.trod_int Tryd.underlying5 h3
  simp [Geo.cells] at e0 e1 e2 e3
  obtain ⟨rfl, rfl, rfl, rfl⟩ := e0
  subst e1 e2 e3
  exact ⟨g, D, V, S, rfl, wf_u8 w1, wf_u8 w2, wf_u8 w3⟩

set_option maxRecDepth 100000 in
theorem mediumRefuses_lifted (os : Os) (started : os.Started) (H : Type) (enc : TypeId × Value → H) :
    ReturnsInHanded {} Tryd.checked os 3 .any (fun w args => (Rows.mediumRefusesSpec.pre enc Tryd.prog Tryd.f3 [] false w args ∧ laidMetH Tryd.prog halvesLaid w) ∧ sizedMet enc Tryd.prog Tryd.f3 (OpenSpec.ofChange Rows.mediumRefusesSpec) false w args)
      (Rows.mediumRefusesSpec.post enc Tryd.prog Tryd.f3 false true false false) := by
  refine returnsInHanded_of_change_and (C := Tryd.checked) (X := fun w _ => laidMetH Tryd.prog halvesLaid w) (fun _ _ _ hh h => h.of_heap hh) own_knob started (by kernel_rfl) Tryd.func3
    (ChangeSpec.witness_shaped (enc := enc) (C := Tryd.checked) (os := os) (X := fun w _ => laidMetH Tryd.prog halvesLaid w) false (World.doorLaid Tryd.prog 400 os) #[.agg #[.int .i64 0, .int .i64 0, .int .i64 0, .int .i64 0, .int .u8 0, .int .u8 0, .int .u8 0]] 20 rfl (World.shaped_of_RefB (by kernel_rfl) (by kernel_rfl)) (by kernel_rfl) (by kernel_rfl) (by kernel_rfl) (door_met os _)) ?_
  intro W base args ds gs before hval0 hW _ _ hL _
  have hval : ∀ (j : Nat) t v, Tryd.f3.params[j]? = some t → args[j]? = some v → Value.okWide Tryd.prog W .any base t v := hval0
  have hW' := hW
  obtain ⟨p, q, hA0, hV, rfl, hfz, hnd⟩ := hW
  have hA : DataW.TrodAll enc Tryd.prog W 0 (fun _ => true) true Tryd.f3.params.toList args.toList ds p := hA0
  rw [Tryd.params3] at hA hval
  obtain ⟨v0, vs0, d0, ds0, p0, q0, hargs, rfl, rfl, h0, r0⟩ := trodAll_cons hA
  obtain ⟨rfl, rfl, rfl⟩ := trodAll_nil r0
  obtain rfl : args = #[v0] := by cases args; simp_all
  obtain ⟨rfl, rfl⟩ := trodVars_none hV
  have k0 := h0
  have lt0 : ∀ x ∈ p0, x.block < W.heap.size := by obtain ⟨m, hm⟩ := k0; exact DataW.trod_lt m _ _ _ hm
  obtain ⟨g, D, V, S, rfl, hD, hV', hS⟩ := open_refuse (hval 0 _ v0 rfl rfl) h0
  have hC := halves_of_laid hL
  clear hA0 hval0
  refine (Tr.below (v := .bool true) ((law_MediumRefuses g D V S hD hV' hS (L := [whole W])).weaken fun v L' h => ⟨L', Ent.refl _, h.1, h.2.symm⟩)).mono fun e W' ⟨he, bel⟩ => ?_
  subst he
  exact ⟨_, rfl, _, _, _, [], _, [], hW', trodAll_mk1 (shut_bool Tryd.underlying4 _), (trodAll_cons_mk (Below.trod laid_out (by kernel_rfl) (of_decide_eq_true (by kernel_rfl)) k0 bel lt0) trodAll_mk0), rfl, bel.frame _, fun h => by cases h⟩

theorem mediumRefuses_row : Rows.MediumRefusesSaid :=
  OpenClaim.holds_of_wide 3 Tryd.f3 rfl rfl rfl rfl rfl rfl rfl ⟨rfl, rfl, rfl, rfl, rfl⟩ rfl rfl rfl rfl rfl (by kernel_rfl) Tryd.func3 (by kernel_rfl)
    (of_decide_eq_true (by kernel_rfl)) (by unfold Func.isWrapper; first | (rw [if_pos (by decide +kernel)]; kernel_rfl) | (rw [if_neg (by decide +kernel)]; exact ⟨rfl, rfl⟩))
    (fun os started H enc _ => mediumRefuses_lifted os started H enc)

theorem mediumRefuses_holds : Rows.MediumRefusesCardSaid :=
  Claim7.holds_tied_plain_at .later [] [.data] true (true, "77fb69114184a0e822369bb1bb624b03a9f73c3b95f2c8139e492fdefdab7337") false
    mediumRefuses_row (fun _ h => by cases h) (by kernel_rfl) (fun _ h => by cases h) mediumRefuses_row_tie rfl ⟨rfl, rfl⟩ (by kernel_rfl) rfl
    (fun f fn hf hfn => by
      obtain rfl : f = 3 := Option.some.inj ((show Tryd.prog.funcNamed "haymow/haymowlaw21.MediumRefuses" = some 3 by kernel_rfl).symm.trans hf) |>.symm
      obtain rfl : fn = Tryd.f3 := (Option.some.inj (Tryd.func3.symm.trans hfn)).symm
      exact ⟨by kernel_rfl, fun j t ht => by
        rw [Tryd.params3] at ht
        have hm : t ∈ [25] := by simpa using Array.mem_of_getElem? ht
        have hall : ([25].all fun u => !Tryd.prog.wantsStandIn u) = true := by kernel_rfl
        exact (show Tryd.prog.wantsStandIn t = false by simpa using List.all_eq_true.1 hall t hm)⟩)
    (by kernel_rfl)
#print axioms mediumRefuses_holds
end Go.Proofs.YtcpfehldofmipaaDoor
