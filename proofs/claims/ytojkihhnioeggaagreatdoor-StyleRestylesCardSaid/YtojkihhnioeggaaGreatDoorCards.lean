/-
  DERIVED. GIVEN WITH THE SEED: THE CARDS: each row of YtojkihhnioeggaaGreatDoorRows.lean that lists a variable, with what it lists TIED to the program's text (the seventh form; the later family's looks); each row that meets fmt, with fmt's text TOLD by the authors' own Lean function (tested against real Go, not proved from fmt's source: count such statements apart). THE CARD IS WHAT COUNTS. Prove the row's statement (the work); the ties are given (YtojkihhnioeggaaGreatDoorTie.lean); close each card by the builder's one call (the guide's Derived/Test/ToyasCard.lean, 'card_holds'). Laid BY PROGRAM, IN A SANDBOX (cutbox-door.mjs). By AI agents, Wed Nov 11 2026. No macro, syntax, notation, axiom, sorry.
-/
import Derived.Test.YtojkihhnioeggaaGreatDoorRows
import GoSem.ClaimSeven
namespace Go.Proofs.YtojkihhnioeggaaGreatDoor
namespace Rows

/-- THE TIED CARD OF 'widgetrylaw17.StyleCascades'. -/
def styleCascadesCard : Claim7 := { stood := { row := styleCascadesRow, standIns := [], harness := (true, "e7dd86186ea438b61cf7304786d773f21024c89ad965a34949d9c5874f29de62"), looks := false }, kinds := [], alts := [], laidByText := true, laidKinds := [.data, .data, .pinned], laidTests := true, laidLooks := .later }
def StyleCascadesCardSaid : Prop := Claim7.holds Tryz.pinned (.plain (OpenSpec.ofChange styleCascadesSpec)) styleCascadesCard

/-- THE TIED CARD OF 'widgetrylaw17.StyleRanges'. -/
def styleRangesCard : Claim7 := { stood := { row := styleRangesRow, standIns := [], harness := (true, "e7dd86186ea438b61cf7304786d773f21024c89ad965a34949d9c5874f29de62"), looks := false }, kinds := [], alts := [], laidByText := true, laidKinds := [.data, .data, .pinned], laidTests := true, laidLooks := .later }
def StyleRangesCardSaid : Prop := Claim7.holds Tryz.pinned (.plain (OpenSpec.ofChange styleRangesSpec)) styleRangesCard

/-- THE TIED CARD OF 'widgetrylaw17.StyleMatches'. -/
def styleMatchesCard : Claim7 := { stood := { row := styleMatchesRow, standIns := [], harness := (true, "e7dd86186ea438b61cf7304786d773f21024c89ad965a34949d9c5874f29de62"), looks := false }, kinds := [], alts := [], laidByText := true, laidKinds := [.data, .data, .pinned], laidTests := true, laidLooks := .later }
def StyleMatchesCardSaid : Prop := Claim7.holds Tryz.pinned (.plain (OpenSpec.ofChange styleMatchesSpec)) styleMatchesCard

/-- THE TIED CARD OF 'widgetrylaw17.StyleStates'. -/
def styleStatesCard : Claim7 := { stood := { row := styleStatesRow, standIns := [], harness := (true, "e7dd86186ea438b61cf7304786d773f21024c89ad965a34949d9c5874f29de62"), looks := false }, kinds := [], alts := [], laidByText := true, laidKinds := [.data, .data, .pinned], laidTests := true, laidLooks := .later }
def StyleStatesCardSaid : Prop := Claim7.holds Tryz.pinned (.plain (OpenSpec.ofChange styleStatesSpec)) styleStatesCard

/-- THE TIED CARD OF 'widgetrylaw17.StyleRestyles'. -/
def styleRestylesCard : Claim7 := { stood := { row := styleRestylesRow, standIns := [], harness := (true, "e7dd86186ea438b61cf7304786d773f21024c89ad965a34949d9c5874f29de62"), looks := false }, kinds := [], alts := [], laidByText := true, laidKinds := [.data, .data, .pinned], laidTests := true, laidLooks := .later }
def StyleRestylesCardSaid : Prop := Claim7.holds Tryz.pinned (.plain (OpenSpec.ofChange styleRestylesSpec)) styleRestylesCard

/-- THE TIED CARD OF 'widgetrylaw17.StyleUnchanged'. -/
def styleUnchangedCard : Claim7 := { stood := { row := styleUnchangedRow, standIns := [], harness := (true, "e7dd86186ea438b61cf7304786d773f21024c89ad965a34949d9c5874f29de62"), looks := false }, kinds := [], alts := [], laidByText := true, laidKinds := [.data, .data, .pinned], laidTests := true, laidLooks := .later }
def StyleUnchangedCardSaid : Prop := Claim7.holds Tryz.pinned (.plain (OpenSpec.ofChange styleUnchangedSpec)) styleUnchangedCard

/-- THE SECOND FORM's CARD OF 'widgetrylaw17.StyleCascades'. -/
def styleCascadesUptoCard : Claim7 := { stood := { row := styleCascadesUptoRow, standIns := [], harness := (true, "e7dd86186ea438b61cf7304786d773f21024c89ad965a34949d9c5874f29de62"), looks := false }, kinds := [], alts := [], laidByText := true, laidKinds := [.data, .data, .pinned], laidTests := true, laidLooks := .later }
def StyleCascadesUptoCardSaid : Prop := Claim7.holds Tryz.pinned (.plain (OpenSpec.upto styleCascadesSpec)) styleCascadesUptoCard

/-- THE SECOND FORM's CARD OF 'widgetrylaw17.StyleRanges'. -/
def styleRangesUptoCard : Claim7 := { stood := { row := styleRangesUptoRow, standIns := [], harness := (true, "e7dd86186ea438b61cf7304786d773f21024c89ad965a34949d9c5874f29de62"), looks := false }, kinds := [], alts := [], laidByText := true, laidKinds := [.data, .data, .pinned], laidTests := true, laidLooks := .later }
def StyleRangesUptoCardSaid : Prop := Claim7.holds Tryz.pinned (.plain (OpenSpec.upto styleRangesSpec)) styleRangesUptoCard

/-- THE SECOND FORM's CARD OF 'widgetrylaw17.StyleMatches'. -/
def styleMatchesUptoCard : Claim7 := { stood := { row := styleMatchesUptoRow, standIns := [], harness := (true, "e7dd86186ea438b61cf7304786d773f21024c89ad965a34949d9c5874f29de62"), looks := false }, kinds := [], alts := [], laidByText := true, laidKinds := [.data, .data, .pinned], laidTests := true, laidLooks := .later }
def StyleMatchesUptoCardSaid : Prop := Claim7.holds Tryz.pinned (.plain (OpenSpec.upto styleMatchesSpec)) styleMatchesUptoCard

/-- THE SECOND FORM's CARD OF 'widgetrylaw17.StyleStates'. -/
def styleStatesUptoCard : Claim7 := { stood := { row := styleStatesUptoRow, standIns := [], harness := (true, "e7dd86186ea438b61cf7304786d773f21024c89ad965a34949d9c5874f29de62"), looks := false }, kinds := [], alts := [], laidByText := true, laidKinds := [.data, .data, .pinned], laidTests := true, laidLooks := .later }
def StyleStatesUptoCardSaid : Prop := Claim7.holds Tryz.pinned (.plain (OpenSpec.upto styleStatesSpec)) styleStatesUptoCard

/-- THE SECOND FORM's CARD OF 'widgetrylaw17.StyleRestyles'. -/
def styleRestylesUptoCard : Claim7 := { stood := { row := styleRestylesUptoRow, standIns := [], harness := (true, "e7dd86186ea438b61cf7304786d773f21024c89ad965a34949d9c5874f29de62"), looks := false }, kinds := [], alts := [], laidByText := true, laidKinds := [.data, .data, .pinned], laidTests := true, laidLooks := .later }
def StyleRestylesUptoCardSaid : Prop := Claim7.holds Tryz.pinned (.plain (OpenSpec.upto styleRestylesSpec)) styleRestylesUptoCard

/-- THE SECOND FORM's CARD OF 'widgetrylaw17.StyleUnchanged'. -/
def styleUnchangedUptoCard : Claim7 := { stood := { row := styleUnchangedUptoRow, standIns := [], harness := (true, "e7dd86186ea438b61cf7304786d773f21024c89ad965a34949d9c5874f29de62"), looks := false }, kinds := [], alts := [], laidByText := true, laidKinds := [.data, .data, .pinned], laidTests := true, laidLooks := .later }
def StyleUnchangedUptoCardSaid : Prop := Claim7.holds Tryz.pinned (.plain (OpenSpec.upto styleUnchangedSpec)) styleUnchangedUptoCard
end Rows
end Go.Proofs.YtojkihhnioeggaaGreatDoor
