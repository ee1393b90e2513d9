/-
  NARROWER THAN 'FOR EVERY INPUT', by the rows' own cells (each row's printed sentence says how): VaultApart: laid · VaultAddresses: laid · VaultKeeps: laid.
  DERIVED. THE GIVEN ROWS OF THIS SEAT. 3 by the template 'for every input the law returns true; each argument reads behind the call as it read before'; 0 by the template 'total and deterministic' (their statements: YtjdnflhejfcgdaaDoorTotals.lean).
  GIVEN WITH THE SEED: the statements are not yours to turn. If you find one false, say at which input.
  Laid BY PROGRAM, IN A SANDBOX (cutbox-rows.mjs): the forced cells as the released guide's own fill.sh prints them over the translation 14fae4046eb6aecc… (all of the seat's roots in one cut). By AI agents, Wed Nov 11 2026. No macro, syntax, notation, axiom, sorry.
-/
import Derived.Test.YtjdnflhejfcgdaaDoorChecked
import GoSem.Claim
import GoSem.ClaimJoined
import GoSem.ClaimMapViews
import Derived.JoinedTies
import Derived.KernelRfl
namespace Go.Proofs.YtjdnflhejfcgdaaDoor
/- THE CELL 'sum', in the pinned program and in every row, IS THE sha256 OF THE DUMP (.gsa) THAT YtjdnflhejfcgdaaDoorProg.lean LOADS. Nothing in Lean hashes anything: it is a label: what it is worth is what the hold of that sum in a sandbox is worth. -/
noncomputable def Tryd.pinned : Pinned := { name := "ytjdnflhejfcgdaadoor", sum := "14fae4046eb6aecc0822e7f6121b5a8e1a2c4a92e9cc3e59b5260170696525d0", checked := Tryd.checked }
namespace Rows
def none {H : Type} : Left H := { results := [], args := [] }

/- WHAT THE LISTED PACKAGE-LEVEL VARIABLES READ AS WHEN THE CALL BEGINS. Each datum BY PROGRAM (the guide's laid-datum.mjs) off the statement by which the dump's own 'gosem.cut.vars' lays the variable. In a bare row this is a premise. The card (YtjdnflhejfcgdaaDoorCards.lean) ties it to the program's text. -/
def laid_haymow_crc_halves {H : Type} : DataW H := .agg [.lit (.int .u32 0), .lit (.int .u32 274646895), .lit (.int .u32 549293790), .lit (.int .u32 820201905), .lit (.int .u32 1098587580), .lit (.int .u32 1361435347), .lit (.int .u32 1640403810), .lit (.int .u32 1905808397), .lit (.int .u32 2197175160), .lit (.int .u32 2460548119), .lit (.int .u32 2722870694), .lit (.int .u32 2987750089), .lit (.int .u32 3280807620), .lit (.int .u32 3553878443), .lit (.int .u32 3811616794), .lit (.int .u32 4084100981)]

/-- 'haymowlaw22.VaultApart': WHATEVER THE INPUT: true; the input reads as it did. -/
def vaultApartSpec : ChangeSpec := { name := "vaultApart", fn := fun _ => fun
  | [d] => { results := [.lit (.bool true)], args := [d] }
  | _ => none }
def vaultApartRow : OpenClaim := { program := "ytjdnflhejfcgdaadoor", sum := "14fae4046eb6aecc0822e7f6121b5a8e1a2c4a92e9cc3e59b5260170696525d0", func := "haymow/haymowlaw22.VaultApart", spec := "vaultApart", unfollowed := true, recurses := true, named := ["haymow/crc.halves"], apart := false, laid := [("haymow/crc.halves", laid_haymow_crc_halves)] }
def VaultApartSaid : Prop := vaultApartRow.holds Tryd.pinned (OpenSpec.ofChange vaultApartSpec)

/-- ITS FALSE NEIGHBOUR: 'it returns false'. Refute it at one input. -/
def vaultApartWrong : ChangeSpec := { name := "vaultApart", fn := fun _ => fun
  | [d] => { results := [.lit (.bool false)], args := [d] }
  | _ => none }
def VaultApartWrongFalsely : Prop := vaultApartRow.holds Tryd.pinned (OpenSpec.ofChange vaultApartWrong)

/-- 'haymowlaw22.VaultAddresses': WHATEVER THE INPUT: true; the input reads as it did. -/
def vaultAddressesSpec : ChangeSpec := { name := "vaultAddresses", fn := fun _ => fun
  | [d1, d2, d3] => { results := [.lit (.bool true)], args := [d1, d2, d3] }
  | _ => none }
def vaultAddressesRow : OpenClaim := { program := "ytjdnflhejfcgdaadoor", sum := "14fae4046eb6aecc0822e7f6121b5a8e1a2c4a92e9cc3e59b5260170696525d0", func := "haymow/haymowlaw22.VaultAddresses", spec := "vaultAddresses", unfollowed := true, recurses := true, named := ["haymow/crc.halves"], apart := false, laid := [("haymow/crc.halves", laid_haymow_crc_halves)] }
def VaultAddressesSaid : Prop := vaultAddressesRow.holds Tryd.pinned (OpenSpec.ofChange vaultAddressesSpec)

/-- ITS FALSE NEIGHBOUR: 'it returns false'. Refute it at one input. -/
def vaultAddressesWrong : ChangeSpec := { name := "vaultAddresses", fn := fun _ => fun
  | [d1, d2, d3] => { results := [.lit (.bool false)], args := [d1, d2, d3] }
  | _ => none }
def VaultAddressesWrongFalsely : Prop := vaultAddressesRow.holds Tryd.pinned (OpenSpec.ofChange vaultAddressesWrong)

/-- 'haymowlaw22.VaultKeeps': WHATEVER THE INPUT: true; the input reads as it did. -/
def vaultKeepsSpec : ChangeSpec := { name := "vaultKeeps", fn := fun _ => fun
  | [d1, d2] => { results := [.lit (.bool true)], args := [d1, d2] }
  | _ => none }
def vaultKeepsRow : OpenClaim := { program := "ytjdnflhejfcgdaadoor", sum := "14fae4046eb6aecc0822e7f6121b5a8e1a2c4a92e9cc3e59b5260170696525d0", func := "haymow/haymowlaw22.VaultKeeps", spec := "vaultKeeps", unfollowed := true, recurses := true, named := ["haymow/crc.halves"], apart := false, laid := [("haymow/crc.halves", laid_haymow_crc_halves)] }
def VaultKeepsSaid : Prop := vaultKeepsRow.holds Tryd.pinned (OpenSpec.ofChange vaultKeepsSpec)

/-- ITS FALSE NEIGHBOUR: 'it returns false'. Refute it at one input. -/
def vaultKeepsWrong : ChangeSpec := { name := "vaultKeeps", fn := fun _ => fun
  | [d1, d2] => { results := [.lit (.bool false)], args := [d1, d2] }
  | _ => none }
def VaultKeepsWrongFalsely : Prop := vaultKeepsRow.holds Tryd.pinned (OpenSpec.ofChange vaultKeepsWrong)

/- THE SECOND FORM. 'bulk': how many values and letters a reading holds, each counted each time it is reached (what is shared counts as often as it is met; a slice's spare places count too). A statement '..UptoSaid' is the law's where the arguments, and the package variables that the reading takes, are together of bulk at most 1048576: NARROWER than '..Said'. Prove '..Said' where nothing that the law and all that it calls make is longer than what came in: it says more and counts as full. Else prove '..UptoSaid'. A law counts once. -/
mutual
def uptoBulk {H : Type} : DataW H → Nat
  | .lit (.string bytes) => bytes.length + 1
  | .lit _ => 1
  | .nil => 1
  | .ptr d => uptoBulk d + 1
  | .slice elems spare => uptoBulkAll elems + uptoBulkAll spare + 1
  | .agg parts => uptoBulkAll parts + 1
  | .iface _ d => uptoBulk d + 1
  | .map entries => uptoBulkEntries entries + 1
  | .held _ => 1
def uptoBulkAll {H : Type} : List (DataW H) → Nat
  | [] => 0
  | d :: r => uptoBulk d + uptoBulkAll r
def uptoBulkEntries {H : Type} : List (Lit × DataW H) → Nat
  | [] => 0
  | x :: r => uptoBulkEntry x + uptoBulkEntries r
def uptoBulkEntry {H : Type} : Lit × DataW H → Nat
  | (.string bytes, d) => bytes.length + uptoBulk d + 1
  | (_, d) => uptoBulk d + 1
 end
def uptoSmall : (H : Type) → List (DataW H) → Bool := fun _ ds => decide (uptoBulkAll ds ≤ 1048576)
def OpenSpec.upto (s : _root_.Go.ChangeSpec) : _root_.Go.OpenSpec := { _root_.Go.OpenSpec.ofChange s with cond := some uptoSmall }

/-- 'haymowlaw22.VaultApart', WHERE WHAT IT READS IS OF BULK AT MOST 1048576: true; the input reads as it did. -/
def vaultApartUptoRow : OpenClaim := { program := "ytjdnflhejfcgdaadoor", sum := "14fae4046eb6aecc0822e7f6121b5a8e1a2c4a92e9cc3e59b5260170696525d0", func := "haymow/haymowlaw22.VaultApart", spec := "vaultApart", unfollowed := true, recurses := true, named := ["haymow/crc.halves"], apart := false, laid := [("haymow/crc.halves", laid_haymow_crc_halves)], narrowed := true }
def VaultApartUptoSaid : Prop := vaultApartUptoRow.holds Tryd.pinned (OpenSpec.upto vaultApartSpec)

/-- 'haymowlaw22.VaultAddresses', WHERE WHAT IT READS IS OF BULK AT MOST 1048576: true; the input reads as it did. -/
def vaultAddressesUptoRow : OpenClaim := { program := "ytjdnflhejfcgdaadoor", sum := "14fae4046eb6aecc0822e7f6121b5a8e1a2c4a92e9cc3e59b5260170696525d0", func := "haymow/haymowlaw22.VaultAddresses", spec := "vaultAddresses", unfollowed := true, recurses := true, named := ["haymow/crc.halves"], apart := false, laid := [("haymow/crc.halves", laid_haymow_crc_halves)], narrowed := true }
def VaultAddressesUptoSaid : Prop := vaultAddressesUptoRow.holds Tryd.pinned (OpenSpec.upto vaultAddressesSpec)

/-- 'haymowlaw22.VaultKeeps', WHERE WHAT IT READS IS OF BULK AT MOST 1048576: true; the input reads as it did. -/
def vaultKeepsUptoRow : OpenClaim := { program := "ytjdnflhejfcgdaadoor", sum := "14fae4046eb6aecc0822e7f6121b5a8e1a2c4a92e9cc3e59b5260170696525d0", func := "haymow/haymowlaw22.VaultKeeps", spec := "vaultKeeps", unfollowed := true, recurses := true, named := ["haymow/crc.halves"], apart := false, laid := [("haymow/crc.halves", laid_haymow_crc_halves)], narrowed := true }
def VaultKeepsUptoSaid : Prop := vaultKeepsUptoRow.holds Tryd.pinned (OpenSpec.upto vaultKeepsSpec)

end Rows
end Go.Proofs.YtjdnflhejfcgdaaDoor
