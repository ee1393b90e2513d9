/-
  DERIVED. GIVEN WITH THE SEED: THE CARDS: each row of YtjdnflhejfcgdaaDoorRows.lean that lists a variable, with what it lists TIED to the program's text (the seventh form; the later family's looks); each row that meets fmt, with fmt's text TOLD by the authors' own Lean function (tested against real Go, not proved from fmt's source: count such statements apart). THE CARD IS WHAT COUNTS. Prove the row's statement (the work); the ties are given (YtjdnflhejfcgdaaDoorTie.lean); close each card by the builder's one call (the guide's Derived/Test/ToyasCard.lean, 'card_holds'). Laid BY PROGRAM, IN A SANDBOX (cutbox-door.mjs). By AI agents, Wed Nov 11 2026. No macro, syntax, notation, axiom, sorry.
-/
import Derived.Test.YtjdnflhejfcgdaaDoorRows
import GoSem.ClaimSeven
namespace Go.Proofs.YtjdnflhejfcgdaaDoor
namespace Rows

/-- THE TIED CARD OF 'haymowlaw22.VaultApart'. -/
def vaultApartCard : Claim7 := { stood := { row := vaultApartRow, standIns := [], harness := (true, "5b89e90cde3a50a738050261dd56ba187339b13d7acc54e8506573a99a4bbcc4"), looks := false }, kinds := [], alts := [], laidByText := true, laidKinds := [.data], laidTests := true, laidLooks := .later }
def VaultApartCardSaid : Prop := Claim7.holds Tryd.pinned (.plain (OpenSpec.ofChange vaultApartSpec)) vaultApartCard

/-- THE TIED CARD OF 'haymowlaw22.VaultAddresses'. -/
def vaultAddressesCard : Claim7 := { stood := { row := vaultAddressesRow, standIns := [], harness := (true, "5b89e90cde3a50a738050261dd56ba187339b13d7acc54e8506573a99a4bbcc4"), looks := false }, kinds := [], alts := [], laidByText := true, laidKinds := [.data], laidTests := true, laidLooks := .later }
def VaultAddressesCardSaid : Prop := Claim7.holds Tryd.pinned (.plain (OpenSpec.ofChange vaultAddressesSpec)) vaultAddressesCard

/-- THE TIED CARD OF 'haymowlaw22.VaultKeeps'. -/
def vaultKeepsCard : Claim7 := { stood := { row := vaultKeepsRow, standIns := [], harness := (true, "5b89e90cde3a50a738050261dd56ba187339b13d7acc54e8506573a99a4bbcc4"), looks := false }, kinds := [], alts := [], laidByText := true, laidKinds := [.data], laidTests := true, laidLooks := .later }
def VaultKeepsCardSaid : Prop := Claim7.holds Tryd.pinned (.plain (OpenSpec.ofChange vaultKeepsSpec)) vaultKeepsCard

/-- THE SECOND FORM's CARD OF 'haymowlaw22.VaultApart'. -/
def vaultApartUptoCard : Claim7 := { stood := { row := vaultApartUptoRow, standIns := [], harness := (true, "5b89e90cde3a50a738050261dd56ba187339b13d7acc54e8506573a99a4bbcc4"), looks := false }, kinds := [], alts := [], laidByText := true, laidKinds := [.data], laidTests := true, laidLooks := .later }
def VaultApartUptoCardSaid : Prop := Claim7.holds Tryd.pinned (.plain (OpenSpec.upto vaultApartSpec)) vaultApartUptoCard

/-- THE SECOND FORM's CARD OF 'haymowlaw22.VaultAddresses'. -/
def vaultAddressesUptoCard : Claim7 := { stood := { row := vaultAddressesUptoRow, standIns := [], harness := (true, "5b89e90cde3a50a738050261dd56ba187339b13d7acc54e8506573a99a4bbcc4"), looks := false }, kinds := [], alts := [], laidByText := true, laidKinds := [.data], laidTests := true, laidLooks := .later }
def VaultAddressesUptoCardSaid : Prop := Claim7.holds Tryd.pinned (.plain (OpenSpec.upto vaultAddressesSpec)) vaultAddressesUptoCard

/-- THE SECOND FORM's CARD OF 'haymowlaw22.VaultKeeps'. -/
def vaultKeepsUptoCard : Claim7 := { stood := { row := vaultKeepsUptoRow, standIns := [], harness := (true, "5b89e90cde3a50a738050261dd56ba187339b13d7acc54e8506573a99a4bbcc4"), looks := false }, kinds := [], alts := [], laidByText := true, laidKinds := [.data], laidTests := true, laidLooks := .later }
def VaultKeepsUptoCardSaid : Prop := Claim7.holds Tryd.pinned (.plain (OpenSpec.upto vaultKeepsSpec)) vaultKeepsUptoCard
end Rows
end Go.Proofs.YtjdnflhejfcgdaaDoor
