/-
  DERIVED. GIVEN WITH THE SEED: THE CARDS: each row of YtdpknokginnmjaaDoorRows.lean that lists a variable, with what it lists TIED to the program's text (the seventh form; the later family's looks); each row that meets fmt, with fmt's text TOLD by the authors' own Lean function (tested against real Go, not proved from fmt's source: count such statements apart). THE CARD IS WHAT COUNTS. Prove the row's statement (the work); the ties are given (YtdpknokginnmjaaDoorTie.lean); close each card by the builder's one call (the guide's Derived/Test/ToyasCard.lean, 'card_holds'). Laid BY PROGRAM, IN A SANDBOX (cutbox-door.mjs). By AI agents, Wed Nov 11 2026. No macro, syntax, notation, axiom, sorry.
-/
import Derived.Test.YtdpknokginnmjaaDoorRows
import GoSem.ClaimSeven
namespace Go.Proofs.YtdpknokginnmjaaDoor
namespace Rows

/-- THE TIED CARD OF 'rosterlaw05.DnPrint'. -/
def dnPrintCard : Claim7 := { stood := { row := dnPrintRow, standIns := [], harness := (true, "9400eccd8ed45c5f56f6040ce0f1fa4f493d6e394add7589141f6e9f11cbfbf9"), looks := true }, kinds := [], alts := [], laidByText := true, laidKinds := [.data, .handle, .sentinel, .sentinel, .sentinel, .sentinel, .sentinel, .sentinel, .sentinel, .sentinel, .sentinel, .sentinel], laidTests := true, laidLooks := .later }
def DnPrintCardSaid : Prop := Claim7.holds Tryd.pinned (.plain (OpenSpec.ofChange dnPrintSpec)) dnPrintCard

/-- THE TIED CARD OF 'rosterlaw05.DnBack'. -/
def dnBackCard : Claim7 := { stood := { row := dnBackRow, standIns := [], harness := (true, "9400eccd8ed45c5f56f6040ce0f1fa4f493d6e394add7589141f6e9f11cbfbf9"), looks := true }, kinds := [], alts := [], laidByText := true, laidKinds := [.sentinel, .sentinel, .sentinel, .sentinel, .sentinel, .sentinel, .sentinel, .sentinel, .sentinel, .sentinel], laidTests := true, laidLooks := .later }
def DnBackCardSaid : Prop := Claim7.holds Tryd.pinned (.plain (OpenSpec.ofChange dnBackSpec)) dnBackCard

/-- THE TIED CARD OF 'rosterlaw05.DnStrangers'. -/
def dnStrangersCard : Claim7 := { stood := { row := dnStrangersRow, standIns := [], harness := (true, "9400eccd8ed45c5f56f6040ce0f1fa4f493d6e394add7589141f6e9f11cbfbf9"), looks := true }, kinds := [], alts := [], laidByText := true, laidKinds := [.handle, .sentinel, .sentinel, .sentinel, .sentinel, .sentinel, .sentinel, .sentinel, .sentinel, .sentinel, .sentinel], laidTests := true, laidLooks := .later }
def DnStrangersCardSaid : Prop := Claim7.holds Tryd.pinned (.plain (OpenSpec.ofChange dnStrangersSpec)) dnStrangersCard

/-- THE TIED CARD OF 'rosterlaw05.DnSame'. -/
def dnSameCard : Claim7 := { stood := { row := dnSameRow, standIns := [], harness := (true, "9400eccd8ed45c5f56f6040ce0f1fa4f493d6e394add7589141f6e9f11cbfbf9"), looks := true }, kinds := [], alts := [], laidByText := true, laidKinds := [.sentinel, .sentinel, .sentinel, .sentinel], laidTests := true, laidLooks := .later }
def DnSameCardSaid : Prop := Claim7.holds Tryd.pinned (.plain (OpenSpec.ofChange dnSameSpec)) dnSameCard

/-- THE TIED CARD OF 'rosterlaw05.DnBlind'. -/
def dnBlindCard : Claim7 := { stood := { row := dnBlindRow, standIns := [], harness := (true, "9400eccd8ed45c5f56f6040ce0f1fa4f493d6e394add7589141f6e9f11cbfbf9"), looks := true }, kinds := [], alts := [], laidByText := true, laidKinds := [.sentinel, .sentinel, .sentinel, .sentinel], laidTests := true, laidLooks := .later }
def DnBlindCardSaid : Prop := Claim7.holds Tryd.pinned (.plain (OpenSpec.ofChange dnBlindSpec)) dnBlindCard

/-- THE TIED CARD OF 'rosterlaw05.DnFamily'. -/
def dnFamilyCard : Claim7 := { stood := { row := dnFamilyRow, standIns := [], harness := (true, "9400eccd8ed45c5f56f6040ce0f1fa4f493d6e394add7589141f6e9f11cbfbf9"), looks := true }, kinds := [], alts := [], laidByText := true, laidKinds := [.sentinel, .sentinel, .sentinel, .sentinel], laidTests := true, laidLooks := .later }
def DnFamilyCardSaid : Prop := Claim7.holds Tryd.pinned (.plain (OpenSpec.ofChange dnFamilySpec)) dnFamilyCard

/-- THE SECOND FORM's CARD OF 'rosterlaw05.DnPrint'. -/
def dnPrintUptoCard : Claim7 := { stood := { row := dnPrintUptoRow, standIns := [], harness := (true, "9400eccd8ed45c5f56f6040ce0f1fa4f493d6e394add7589141f6e9f11cbfbf9"), looks := true }, kinds := [], alts := [], laidByText := true, laidKinds := [.data, .handle, .sentinel, .sentinel, .sentinel, .sentinel, .sentinel, .sentinel, .sentinel, .sentinel, .sentinel, .sentinel], laidTests := true, laidLooks := .later }
def DnPrintUptoCardSaid : Prop := Claim7.holds Tryd.pinned (.plain (OpenSpec.upto dnPrintSpec)) dnPrintUptoCard

/-- THE SECOND FORM's CARD OF 'rosterlaw05.DnBack'. -/
def dnBackUptoCard : Claim7 := { stood := { row := dnBackUptoRow, standIns := [], harness := (true, "9400eccd8ed45c5f56f6040ce0f1fa4f493d6e394add7589141f6e9f11cbfbf9"), looks := true }, kinds := [], alts := [], laidByText := true, laidKinds := [.sentinel, .sentinel, .sentinel, .sentinel, .sentinel, .sentinel, .sentinel, .sentinel, .sentinel, .sentinel], laidTests := true, laidLooks := .later }
def DnBackUptoCardSaid : Prop := Claim7.holds Tryd.pinned (.plain (OpenSpec.upto dnBackSpec)) dnBackUptoCard

/-- THE SECOND FORM's CARD OF 'rosterlaw05.DnStrangers'. -/
def dnStrangersUptoCard : Claim7 := { stood := { row := dnStrangersUptoRow, standIns := [], harness := (true, "9400eccd8ed45c5f56f6040ce0f1fa4f493d6e394add7589141f6e9f11cbfbf9"), looks := true }, kinds := [], alts := [], laidByText := true, laidKinds := [.handle, .sentinel, .sentinel, .sentinel, .sentinel, .sentinel, .sentinel, .sentinel, .sentinel, .sentinel, .sentinel], laidTests := true, laidLooks := .later }
def DnStrangersUptoCardSaid : Prop := Claim7.holds Tryd.pinned (.plain (OpenSpec.upto dnStrangersSpec)) dnStrangersUptoCard

/-- THE SECOND FORM's CARD OF 'rosterlaw05.DnSame'. -/
def dnSameUptoCard : Claim7 := { stood := { row := dnSameUptoRow, standIns := [], harness := (true, "9400eccd8ed45c5f56f6040ce0f1fa4f493d6e394add7589141f6e9f11cbfbf9"), looks := true }, kinds := [], alts := [], laidByText := true, laidKinds := [.sentinel, .sentinel, .sentinel, .sentinel], laidTests := true, laidLooks := .later }
def DnSameUptoCardSaid : Prop := Claim7.holds Tryd.pinned (.plain (OpenSpec.upto dnSameSpec)) dnSameUptoCard

/-- THE SECOND FORM's CARD OF 'rosterlaw05.DnBlind'. -/
def dnBlindUptoCard : Claim7 := { stood := { row := dnBlindUptoRow, standIns := [], harness := (true, "9400eccd8ed45c5f56f6040ce0f1fa4f493d6e394add7589141f6e9f11cbfbf9"), looks := true }, kinds := [], alts := [], laidByText := true, laidKinds := [.sentinel, .sentinel, .sentinel, .sentinel], laidTests := true, laidLooks := .later }
def DnBlindUptoCardSaid : Prop := Claim7.holds Tryd.pinned (.plain (OpenSpec.upto dnBlindSpec)) dnBlindUptoCard

/-- THE SECOND FORM's CARD OF 'rosterlaw05.DnFamily'. -/
def dnFamilyUptoCard : Claim7 := { stood := { row := dnFamilyUptoRow, standIns := [], harness := (true, "9400eccd8ed45c5f56f6040ce0f1fa4f493d6e394add7589141f6e9f11cbfbf9"), looks := true }, kinds := [], alts := [], laidByText := true, laidKinds := [.sentinel, .sentinel, .sentinel, .sentinel], laidTests := true, laidLooks := .later }
def DnFamilyUptoCardSaid : Prop := Claim7.holds Tryd.pinned (.plain (OpenSpec.upto dnFamilySpec)) dnFamilyUptoCard
end Rows
end Go.Proofs.YtdpknokginnmjaaDoor
