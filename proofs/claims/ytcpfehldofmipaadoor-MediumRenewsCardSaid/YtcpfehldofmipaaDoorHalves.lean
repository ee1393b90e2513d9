/-
  Facts of the program for the rows: the listed table, where it stands.
-/
import Derived.Test.YtcpfehldofmipaaDoorRows
import Derived.Test.YtcpfehldofmipaaDoorCrc
import Derived.Test.YtcpfehldofmipaaDoorBase10
import Derived.Lib.SmallJoins
import Derived.LaidMore
import Derived.MakeChecks
import Derived.Stop.Joined
namespace Go.Proofs.YtcpfehldofmipaaDoor
open Go Go.SL Go.ChangeShapes Go.WideShapes Go.ChangeAt Go.RowKit Go.Joins

def halvesLaid : List (String × DataW Unit) := [("haymow/crc.halves", Rows.laid_haymow_crc_halves)]
theorem own_knob : ownKnob Tryd.prog.godebug = none := by kernel_rfl
theorem laid_out : laidOutB Tryd.prog = true := by kernel_rfl
theorem gHalves : Tryd.prog.globalNamed "haymow/crc.halves" = some 0 := by kernel_rfl
theorem tHalves : (Tryd.prog.globals[0]?).map (·.type) = some 181 := by kernel_rfl

set_option maxRecDepth 100000 in
/-- The door's own heap meets the condition. -/
theorem door_met (os : Os) (args : Array Value) : laidMetH Tryd.prog halvesLaid ((World.doorLaid Tryd.prog 400 os).forCall (fun _ _ => 0) ⟨#[], args, []⟩).memory :=
  laidMetH_of_parts3 (fuel := 20) (laidMet_of_run' 20 (by kernel_rfl) (by kernel_rfl)) (by kernel_rfl) (by kernel_rfl)

set_option maxRecDepth 100000 in
theorem halves_of_laid {W : World} (h : laidMetH Tryd.prog halvesLaid W) : HalvesC [whole W] := by
  rw [MakeChecks.laidMetH_plain _ _ _ (by kernel_rfl)] at h
  obtain ⟨ps, ⟨g0, t0, cs0, f0, p0, q0, hg0, ht0, hv0, hd0, _, _⟩, _, _⟩ := h
  obtain rfl := Option.some.inj (gHalves.symm.trans hg0)
  obtain rfl := Option.some.inj (tHalves.symm.trans ht0)
  have hv1 := hv0
  simp only [World.var?, gHalves, Option.bind_some] at hv1
  obtain ⟨xs, m, rfl, hx, hlen, hn, hel⟩ := DataW.trod_array Tryd.underlying181 hd0
  have cA : Tryd.prog.cellsOf 181 = 16 := by kernel_rfl
  have c1 : Tryd.prog.cellsOf 111 = 1 := by kernel_rfl
  rw [cA] at hlen
  simp only [c1, Nat.mul_one] at hel
  have hd : xs.map (·.1) = halvesL.map fun z => (.lit (.int .u32 z) : DataW Unit) := by
    have h1 : Rows.laid_haymow_crc_halves = .agg (xs.map (·.1)) := congrArg Prod.fst hx
    unfold Rows.laid_haymow_crc_halves at h1
    have h2 := (DataW.agg.inj h1).symm
    rw [h2]; rfl
  have hcs : cs0 = halvesC := by
    apply Array.ext_getElem?
    intro i
    by_cases hi : i < 16
    · have h1 := hel i hi
      have hxl : i < xs.length := by omega
      rw [List.getElem?_eq_getElem hxl] at h1
      obtain ⟨n, e1, e2, _⟩ := DataW.trod_int Tryd.underlying111 h1
      have h3 : (xs.map (·.1))[i]? = some (DataW.lit (.int .u32 n)) := by
        rw [List.getElem?_map, List.getElem?_eq_getElem hxl, e2]; rfl
      rw [hd, List.getElem?_map] at h3
      have h4 : cs0.toList[i]? = some (.int .u32 n) := by
        have := congrArg List.head? e1
        simpa [List.head?_take, List.head?_drop] using this
      rw [← Array.getElem?_toList, h4]
      have hhl : halvesL.length = 16 := rfl
      rw [List.getElem?_eq_getElem (by omega), Option.map_some, Option.some.injEq, DataW.lit.injEq, Lit.int.injEq] at h3
      simp only [halvesC, List.getElem?_toArray, List.getElem?_map]
      rw [List.getElem?_eq_getElem (by omega), Option.map_some, h3.2]
    · rw [Array.getElem?_eq_none (by have : cs0.toList.length = cs0.size := Array.length_toList; omega), Array.getElem?_eq_none (by simp [halvesC, halvesL]; omega)]
  subst hcs
  split at hv1
  · rename_i c T fr hb
    cases hv1
    exact ⟨T, fr, Reads.whole hb⟩
  · cases hv1

/-- a slice of ints that an argument holds -/
theorem open_ints {H : Type} {enc : TypeId × Value → H} {P : Program} {w : World} {base : Nat} {spare : Nat → Bool} {held : Bool} {k : IntKind} {t e : TypeId} {fuel : Nat} {p : Option Addr} {n cap : Nat} {x : DataW H × List MemPlace}
    (hs : P.underlying t = some (.slice e)) (he : P.underlying e = some (.int k)) (hc : P.cellsOf e = 1) (h : DataW.trod enc P w base spare held fuel t [.slice p n cap] = some x)
    (hb : ∀ elems sp, x.1 = .slice elems sp → elems.length ≤ 140737488355328) :
    ∃ l : List Int, SlC [whole w] p 1 n cap (l.map fun z => #[.int k z]) ∧ (∀ z ∈ l, (Lit.int k z).wf = true) ∧ n = l.length :=
  open_slc (fun z => #[.int k z]) (fun z => (Lit.int k z).wf = true) (fun _ => rfl) (k := 1) (by decide) hs hc (fun cs m y h => by
    obtain ⟨z, e, _, w⟩ := DataW.trod_int he h
    exact ⟨z, by simp [e], w⟩) h hb
theorem wf_u8 {n : Int} (h : (Lit.int .u8 n).wf = true) : 0 ≤ n ∧ n ≤ 255 := by
  simpa [Lit.wf, IntKind.min, IntKind.max, IntKind.signed, IntKind.bits] using h
theorem wf_u16 {n : Int} (h : (Lit.int .u16 n).wf = true) : 0 ≤ n ∧ n ≤ 65535 := by
  simpa [Lit.wf, IntKind.min, IntKind.max, IntKind.signed, IntKind.bits] using h
theorem wf_i64 {n : Int} (h : (Lit.int .i64 n).wf = true) : -9223372036854775808 ≤ n ∧ n ≤ 9223372036854775807 := by
  simpa [Lit.wf, IntKind.min, IntKind.max, IntKind.signed, IntKind.bits] using h
end Go.Proofs.YtcpfehldofmipaaDoor
