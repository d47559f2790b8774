/-
  DERIVED. GIVEN WITH THE SEED: THE CARDS: each row of YtjefclbjjcglkaaGreatDoorRows.lean that lists a variable, with what it lists TIED to the program's text (the seventh form; the later family's looks); each row that meets fmt, with fmt's text TOLD by the authors' own Lean function (tested against real Go, not proved from fmt's source: count such statements apart). THE CARD IS WHAT COUNTS. Prove the row's statement (the work); the ties are given (YtjefclbjjcglkaaGreatDoorTie.lean); close each card by the builder's one call (the guide's Derived/Test/ToyasCard.lean, 'card_holds'). Laid BY PROGRAM, IN A SANDBOX (cutbox-door.mjs). By AI agents, Wed Nov 11 2026. No macro, syntax, notation, axiom, sorry.
-/
import Derived.Test.YtjefclbjjcglkaaGreatDoorRows
import GoSem.ClaimSeven
namespace Go.Proofs.YtjefclbjjcglkaaGreatDoor
namespace Rows

/-- THE TIED CARD OF 'widgetrylaw35.PointerModal'. -/
def pointerModalCard : Claim7 := { stood := { row := pointerModalRow, standIns := [], harness := (true, "879d2e42e62c61299aeaf256995395e86835821416cb1a13a91c038ac7b60ebf"), looks := false }, kinds := [], alts := [], laidByText := true, laidKinds := [.data, .data, .pinned], laidTests := true, laidLooks := .later }
def PointerModalCardSaid : Prop := Claim7.holds Tryz.pinned (.plain (OpenSpec.ofChange pointerModalSpec)) pointerModalCard

/-- THE TIED CARD OF 'widgetrylaw35.PointerSlides'. -/
def pointerSlidesCard : Claim7 := { stood := { row := pointerSlidesRow, standIns := [], harness := (true, "879d2e42e62c61299aeaf256995395e86835821416cb1a13a91c038ac7b60ebf"), looks := false }, kinds := [], alts := [], laidByText := true, laidKinds := [.data, .data, .pinned], laidTests := true, laidLooks := .later }
def PointerSlidesCardSaid : Prop := Claim7.holds Tryz.pinned (.plain (OpenSpec.ofChange pointerSlidesSpec)) pointerSlidesCard

/-- THE TIED CARD OF 'widgetrylaw35.PointerFull'. -/
def pointerFullCard : Claim7 := { stood := { row := pointerFullRow, standIns := [], harness := (true, "879d2e42e62c61299aeaf256995395e86835821416cb1a13a91c038ac7b60ebf"), looks := false }, kinds := [], alts := [], laidByText := true, laidKinds := [.data, .data, .pinned], laidTests := true, laidLooks := .later }
def PointerFullCardSaid : Prop := Claim7.holds Tryz.pinned (.plain (OpenSpec.ofChange pointerFullSpec)) pointerFullCard

/-- THE SECOND FORM's CARD OF 'widgetrylaw35.PointerModal'. -/
def pointerModalUptoCard : Claim7 := { stood := { row := pointerModalUptoRow, standIns := [], harness := (true, "879d2e42e62c61299aeaf256995395e86835821416cb1a13a91c038ac7b60ebf"), looks := false }, kinds := [], alts := [], laidByText := true, laidKinds := [.data, .data, .pinned], laidTests := true, laidLooks := .later }
def PointerModalUptoCardSaid : Prop := Claim7.holds Tryz.pinned (.plain (OpenSpec.upto pointerModalSpec)) pointerModalUptoCard

/-- THE SECOND FORM's CARD OF 'widgetrylaw35.PointerSlides'. -/
def pointerSlidesUptoCard : Claim7 := { stood := { row := pointerSlidesUptoRow, standIns := [], harness := (true, "879d2e42e62c61299aeaf256995395e86835821416cb1a13a91c038ac7b60ebf"), looks := false }, kinds := [], alts := [], laidByText := true, laidKinds := [.data, .data, .pinned], laidTests := true, laidLooks := .later }
def PointerSlidesUptoCardSaid : Prop := Claim7.holds Tryz.pinned (.plain (OpenSpec.upto pointerSlidesSpec)) pointerSlidesUptoCard

/-- THE SECOND FORM's CARD OF 'widgetrylaw35.PointerFull'. -/
def pointerFullUptoCard : Claim7 := { stood := { row := pointerFullUptoRow, standIns := [], harness := (true, "879d2e42e62c61299aeaf256995395e86835821416cb1a13a91c038ac7b60ebf"), looks := false }, kinds := [], alts := [], laidByText := true, laidKinds := [.data, .data, .pinned], laidTests := true, laidLooks := .later }
def PointerFullUptoCardSaid : Prop := Claim7.holds Tryz.pinned (.plain (OpenSpec.upto pointerFullSpec)) pointerFullUptoCard
end Rows
end Go.Proofs.YtjefclbjjcglkaaGreatDoor
