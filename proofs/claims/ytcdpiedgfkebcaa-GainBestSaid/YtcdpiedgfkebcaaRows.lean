/-
  No cell of these rows narrows 'for every input' (looked for: loops, veiled, ifaces, maps, wideKeys, modest, calm, conditions, laid).
  DERIVED. THE GIVEN ROWS OF THIS SEAT. 6 by the template 'for every input the law returns true; each argument reads behind the call as it read before'; 0 by the template 'total and deterministic' (their statements: YtcdpiedgfkebcaaTotals.lean).
  GIVEN WITH THE SEED: the statements are not yours to turn. If you find one false, say at which input.
  Laid BY PROGRAM, IN A SANDBOX (cutbox-rows.mjs): the forced cells as the released guide's own fill.sh prints them over the translation 6a809267eb453ad6… (all of the seat's roots in one cut). By AI agents, Wed Nov 11 2026. No macro, syntax, notation, axiom, sorry.
-/
import Derived.Test.YtcdpiedgfkebcaaChecked
import GoSem.Claim
import GoSem.ClaimJoined
import GoSem.ClaimMapViews
import Derived.JoinedTies
import Derived.KernelRfl
namespace Go.Proofs.Ytcdpiedgfkebcaa
/- THE CELL 'sum', in the pinned program and in every row, IS THE sha256 OF THE DUMP (.gsa) THAT YtcdpiedgfkebcaaProg.lean LOADS. Nothing in Lean hashes anything: it is a label: what it is worth is what the hold of that sum in a sandbox is worth. -/
noncomputable def Try.pinned : Pinned := { name := "ytcdpiedgfkebcaa", sum := "6a809267eb453ad67567b8f7d970574c12ed6acfc45c2f81149693575014f31f", checked := Try.checked }
namespace Rows
def none {H : Type} : Left H := { results := [], args := [] }

/-- 'haymowlaw17.HeatColds': WHATEVER THE INPUT: true; the input reads as it did. -/
def heatColdsSpec : ChangeSpec := { name := "heatColds", fn := fun _ => fun
  | [d1, d2, d3] => { results := [.lit (.bool true)], args := [d1, d2, d3] }
  | _ => none }
def heatColdsRow : OpenClaim := { program := "ytcdpiedgfkebcaa", sum := "6a809267eb453ad67567b8f7d970574c12ed6acfc45c2f81149693575014f31f", func := "haymow/haymowlaw17.HeatColds", spec := "heatColds", unfollowed := true, recurses := true, apart := false }
def HeatColdsSaid : Prop := heatColdsRow.holds Try.pinned (OpenSpec.ofChange heatColdsSpec)

/-- ITS FALSE NEIGHBOUR: 'it returns false'. Refute it at one input. -/
def heatColdsWrong : ChangeSpec := { name := "heatColds", fn := fun _ => fun
  | [d1, d2, d3] => { results := [.lit (.bool false)], args := [d1, d2, d3] }
  | _ => none }
def HeatColdsWrongFalsely : Prop := heatColdsRow.holds Try.pinned (OpenSpec.ofChange heatColdsWrong)

/-- 'haymowlaw17.HeatFair': WHATEVER THE INPUT: true; the input reads as it did. -/
def heatFairSpec : ChangeSpec := { name := "heatFair", fn := fun _ => fun
  | [d] => { results := [.lit (.bool true)], args := [d] }
  | _ => none }
def heatFairRow : OpenClaim := { program := "ytcdpiedgfkebcaa", sum := "6a809267eb453ad67567b8f7d970574c12ed6acfc45c2f81149693575014f31f", func := "haymow/haymowlaw17.HeatFair", spec := "heatFair", unfollowed := true, recurses := true, apart := false }
def HeatFairSaid : Prop := heatFairRow.holds Try.pinned (OpenSpec.ofChange heatFairSpec)

/-- ITS FALSE NEIGHBOUR: 'it returns false'. Refute it at one input. -/
def heatFairWrong : ChangeSpec := { name := "heatFair", fn := fun _ => fun
  | [d] => { results := [.lit (.bool false)], args := [d] }
  | _ => none }
def HeatFairWrongFalsely : Prop := heatFairRow.holds Try.pinned (OpenSpec.ofChange heatFairWrong)

/-- 'haymowlaw18.GainCompares': WHATEVER THE INPUT: true; the input reads as it did. -/
def gainComparesSpec : ChangeSpec := { name := "gainCompares", fn := fun _ => fun
  | [d1, d2, d3] => { results := [.lit (.bool true)], args := [d1, d2, d3] }
  | _ => none }
def gainComparesRow : OpenClaim := { program := "ytcdpiedgfkebcaa", sum := "6a809267eb453ad67567b8f7d970574c12ed6acfc45c2f81149693575014f31f", func := "haymow/haymowlaw18.GainCompares", spec := "gainCompares", unfollowed := true, recurses := true, apart := false }
def GainComparesSaid : Prop := gainComparesRow.holds Try.pinned (OpenSpec.ofChange gainComparesSpec)

/-- ITS FALSE NEIGHBOUR: 'it returns false'. Refute it at one input. -/
def gainComparesWrong : ChangeSpec := { name := "gainCompares", fn := fun _ => fun
  | [d1, d2, d3] => { results := [.lit (.bool false)], args := [d1, d2, d3] }
  | _ => none }
def GainComparesWrongFalsely : Prop := gainComparesRow.holds Try.pinned (OpenSpec.ofChange gainComparesWrong)

/-- 'haymowlaw18.GainOrder': WHATEVER THE INPUT: true; the input reads as it did. -/
def gainOrderSpec : ChangeSpec := { name := "gainOrder", fn := fun _ => fun
  | [d] => { results := [.lit (.bool true)], args := [d] }
  | _ => none }
def gainOrderRow : OpenClaim := { program := "ytcdpiedgfkebcaa", sum := "6a809267eb453ad67567b8f7d970574c12ed6acfc45c2f81149693575014f31f", func := "haymow/haymowlaw18.GainOrder", spec := "gainOrder", unfollowed := true, recurses := true, apart := false }
def GainOrderSaid : Prop := gainOrderRow.holds Try.pinned (OpenSpec.ofChange gainOrderSpec)

/-- ITS FALSE NEIGHBOUR: 'it returns false'. Refute it at one input. -/
def gainOrderWrong : ChangeSpec := { name := "gainOrder", fn := fun _ => fun
  | [d] => { results := [.lit (.bool false)], args := [d] }
  | _ => none }
def GainOrderWrongFalsely : Prop := gainOrderRow.holds Try.pinned (OpenSpec.ofChange gainOrderWrong)

/-- 'haymowlaw18.GainRanks': WHATEVER THE INPUT: true; the input reads as it did. -/
def gainRanksSpec : ChangeSpec := { name := "gainRanks", fn := fun _ => fun
  | [d1, d2, d3] => { results := [.lit (.bool true)], args := [d1, d2, d3] }
  | _ => none }
def gainRanksRow : OpenClaim := { program := "ytcdpiedgfkebcaa", sum := "6a809267eb453ad67567b8f7d970574c12ed6acfc45c2f81149693575014f31f", func := "haymow/haymowlaw18.GainRanks", spec := "gainRanks", unfollowed := true, recurses := true, apart := false }
def GainRanksSaid : Prop := gainRanksRow.holds Try.pinned (OpenSpec.ofChange gainRanksSpec)

/-- ITS FALSE NEIGHBOUR: 'it returns false'. Refute it at one input. -/
def gainRanksWrong : ChangeSpec := { name := "gainRanks", fn := fun _ => fun
  | [d1, d2, d3] => { results := [.lit (.bool false)], args := [d1, d2, d3] }
  | _ => none }
def GainRanksWrongFalsely : Prop := gainRanksRow.holds Try.pinned (OpenSpec.ofChange gainRanksWrong)

/-- 'haymowlaw18.GainBest': WHATEVER THE INPUT: true; the input reads as it did. -/
def gainBestSpec : ChangeSpec := { name := "gainBest", fn := fun _ => fun
  | [d1, d2, d3] => { results := [.lit (.bool true)], args := [d1, d2, d3] }
  | _ => none }
def gainBestRow : OpenClaim := { program := "ytcdpiedgfkebcaa", sum := "6a809267eb453ad67567b8f7d970574c12ed6acfc45c2f81149693575014f31f", func := "haymow/haymowlaw18.GainBest", spec := "gainBest", unfollowed := true, recurses := true, apart := false }
def GainBestSaid : Prop := gainBestRow.holds Try.pinned (OpenSpec.ofChange gainBestSpec)

/-- ITS FALSE NEIGHBOUR: 'it returns false'. Refute it at one input. -/
def gainBestWrong : ChangeSpec := { name := "gainBest", fn := fun _ => fun
  | [d1, d2, d3] => { results := [.lit (.bool false)], args := [d1, d2, d3] }
  | _ => none }
def GainBestWrongFalsely : Prop := gainBestRow.holds Try.pinned (OpenSpec.ofChange gainBestWrong)

/- THE SECOND FORM. 'bulk': how many values and letters a reading holds, each counted each time it is reached (what is shared counts as often as it is met; a slice's spare places count too). A statement '..UptoSaid' is the law's where the arguments, and the package variables that the reading takes, are together of bulk at most 1048576: NARROWER than '..Said'. Prove '..Said' where nothing that the law and all that it calls make is longer than what came in: it says more and counts as full. Else prove '..UptoSaid'. A law counts once. -/
mutual
def uptoBulk {H : Type} : DataW H → Nat
  | .lit (.string bytes) => bytes.length + 1
  | .lit _ => 1
  | .nil => 1
  | .ptr d => uptoBulk d + 1
  | .slice elems spare => uptoBulkAll elems + uptoBulkAll spare + 1
  | .agg parts => uptoBulkAll parts + 1
  | .iface _ d => uptoBulk d + 1
  | .map entries => uptoBulkEntries entries + 1
  | .held _ => 1
def uptoBulkAll {H : Type} : List (DataW H) → Nat
  | [] => 0
  | d :: r => uptoBulk d + uptoBulkAll r
def uptoBulkEntries {H : Type} : List (Lit × DataW H) → Nat
  | [] => 0
  | x :: r => uptoBulkEntry x + uptoBulkEntries r
def uptoBulkEntry {H : Type} : Lit × DataW H → Nat
  | (.string bytes, d) => bytes.length + uptoBulk d + 1
  | (_, d) => uptoBulk d + 1
 end
def uptoSmall : (H : Type) → List (DataW H) → Bool := fun _ ds => decide (uptoBulkAll ds ≤ 1048576)
def OpenSpec.upto (s : _root_.Go.ChangeSpec) : _root_.Go.OpenSpec := { _root_.Go.OpenSpec.ofChange s with cond := some uptoSmall }

/-- 'haymowlaw17.HeatColds', WHERE WHAT IT READS IS OF BULK AT MOST 1048576: true; the input reads as it did. -/
def heatColdsUptoRow : OpenClaim := { program := "ytcdpiedgfkebcaa", sum := "6a809267eb453ad67567b8f7d970574c12ed6acfc45c2f81149693575014f31f", func := "haymow/haymowlaw17.HeatColds", spec := "heatColds", unfollowed := true, recurses := true, apart := false, narrowed := true }
def HeatColdsUptoSaid : Prop := heatColdsUptoRow.holds Try.pinned (OpenSpec.upto heatColdsSpec)

/-- 'haymowlaw17.HeatFair', WHERE WHAT IT READS IS OF BULK AT MOST 1048576: true; the input reads as it did. -/
def heatFairUptoRow : OpenClaim := { program := "ytcdpiedgfkebcaa", sum := "6a809267eb453ad67567b8f7d970574c12ed6acfc45c2f81149693575014f31f", func := "haymow/haymowlaw17.HeatFair", spec := "heatFair", unfollowed := true, recurses := true, apart := false, narrowed := true }
def HeatFairUptoSaid : Prop := heatFairUptoRow.holds Try.pinned (OpenSpec.upto heatFairSpec)

/-- 'haymowlaw18.GainCompares', WHERE WHAT IT READS IS OF BULK AT MOST 1048576: true; the input reads as it did. -/
def gainComparesUptoRow : OpenClaim := { program := "ytcdpiedgfkebcaa", sum := "6a809267eb453ad67567b8f7d970574c12ed6acfc45c2f81149693575014f31f", func := "haymow/haymowlaw18.GainCompares", spec := "gainCompares", unfollowed := true, recurses := true, apart := false, narrowed := true }
def GainComparesUptoSaid : Prop := gainComparesUptoRow.holds Try.pinned (OpenSpec.upto gainComparesSpec)

/-- 'haymowlaw18.GainOrder', WHERE WHAT IT READS IS OF BULK AT MOST 1048576: true; the input reads as it did. -/
def gainOrderUptoRow : OpenClaim := { program := "ytcdpiedgfkebcaa", sum := "6a809267eb453ad67567b8f7d970574c12ed6acfc45c2f81149693575014f31f", func := "haymow/haymowlaw18.GainOrder", spec := "gainOrder", unfollowed := true, recurses := true, apart := false, narrowed := true }
def GainOrderUptoSaid : Prop := gainOrderUptoRow.holds Try.pinned (OpenSpec.upto gainOrderSpec)

/-- 'haymowlaw18.GainRanks', WHERE WHAT IT READS IS OF BULK AT MOST 1048576: true; the input reads as it did. -/
def gainRanksUptoRow : OpenClaim := { program := "ytcdpiedgfkebcaa", sum := "6a809267eb453ad67567b8f7d970574c12ed6acfc45c2f81149693575014f31f", func := "haymow/haymowlaw18.GainRanks", spec := "gainRanks", unfollowed := true, recurses := true, apart := false, narrowed := true }
def GainRanksUptoSaid : Prop := gainRanksUptoRow.holds Try.pinned (OpenSpec.upto gainRanksSpec)

/-- 'haymowlaw18.GainBest', WHERE WHAT IT READS IS OF BULK AT MOST 1048576: true; the input reads as it did. -/
def gainBestUptoRow : OpenClaim := { program := "ytcdpiedgfkebcaa", sum := "6a809267eb453ad67567b8f7d970574c12ed6acfc45c2f81149693575014f31f", func := "haymow/haymowlaw18.GainBest", spec := "gainBest", unfollowed := true, recurses := true, apart := false, narrowed := true }
def GainBestUptoSaid : Prop := gainBestUptoRow.holds Try.pinned (OpenSpec.upto gainBestSpec)

end Rows
end Go.Proofs.Ytcdpiedgfkebcaa
