/-
  DERIVED. GIVEN WITH THE SEED: THE CARDS: each row of YtdchnlmclngjmaaDoorRows.lean that lists a variable, with what it lists TIED to the program's text (the seventh form; the later family's looks); each row that meets fmt, with fmt's text TOLD by the authors' own Lean function (tested against real Go, not proved from fmt's source: count such statements apart). THE CARD IS WHAT COUNTS. Prove the row's statement (the work); the ties are given (YtdchnlmclngjmaaDoorTie.lean); close each card by the builder's one call (the guide's Derived/Test/ToyasCard.lean, 'card_holds'). Laid BY PROGRAM, IN A SANDBOX (cutbox-door.mjs). By AI agents, Wed Nov 11 2026. No macro, syntax, notation, axiom, sorry.
-/
import Derived.Test.YtdchnlmclngjmaaDoorRows
import GoSem.ClaimSeven
namespace Go.Proofs.YtdchnlmclngjmaaDoor
namespace Rows

/-- THE TIED CARD OF 'ferrymanlaw2.FloatTexts'. -/
def floatTextsCard : Claim7 := { stood := { row := floatTextsRow, standIns := [], harness := (true, "9a188eb7700c171b54586502ea2780c10394166c1aa3caa2874c836d94fd8e2b"), looks := false }, kinds := [], alts := [], laidByText := true, laidKinds := [.data, .data, .data], laidTests := true, laidLooks := .later }
def FloatTextsCardSaid : Prop := Claim7.holds Tryd.pinned (.plain (OpenSpec.ofChange floatTextsSpec)) floatTextsCard

/-- THE TIED CARD OF 'ferrymanlaw2.FloatTells'. -/
def floatTellsCard : Claim7 := { stood := { row := floatTellsRow, standIns := [], harness := (true, "9a188eb7700c171b54586502ea2780c10394166c1aa3caa2874c836d94fd8e2b"), looks := false }, kinds := [], alts := [], laidByText := true, laidKinds := [.data, .data, .data], laidTests := true, laidLooks := .later }
def FloatTellsCardSaid : Prop := Claim7.holds Tryd.pinned (.plain (OpenSpec.ofChange floatTellsSpec)) floatTellsCard

/-- THE TIED CARD OF 'ferrymanlaw2.FloatNone'. -/
def floatNoneCard : Claim7 := { stood := { row := floatNoneRow, standIns := [], harness := (true, "9a188eb7700c171b54586502ea2780c10394166c1aa3caa2874c836d94fd8e2b"), looks := false }, kinds := [], alts := [], laidByText := true, laidKinds := [.data, .data, .data], laidTests := true, laidLooks := .later }
def FloatNoneCardSaid : Prop := Claim7.holds Tryd.pinned (.plain (OpenSpec.ofChange floatNoneSpec)) floatNoneCard

/-- THE TIED CARD OF 'ferrymanlaw2.FloatEdges'. -/
def floatEdgesCard : Claim7 := { stood := { row := floatEdgesRow, standIns := [], harness := (true, "9a188eb7700c171b54586502ea2780c10394166c1aa3caa2874c836d94fd8e2b"), looks := false }, kinds := [], alts := [], laidByText := true, laidKinds := [.data, .data, .data], laidTests := true, laidLooks := .later }
def FloatEdgesCardSaid : Prop := Claim7.holds Tryd.pinned (.plain (OpenSpec.ofChange floatEdgesSpec)) floatEdgesCard

/-- THE TIED CARD OF 'ferrymanlaw2.FloatOrder'. -/
def floatOrderCard : Claim7 := { stood := { row := floatOrderRow, standIns := [], harness := (true, "9a188eb7700c171b54586502ea2780c10394166c1aa3caa2874c836d94fd8e2b"), looks := false }, kinds := [], alts := [], laidByText := true, laidKinds := [.data, .data, .data], laidTests := true, laidLooks := .later }
def FloatOrderCardSaid : Prop := Claim7.holds Tryd.pinned (.plain (OpenSpec.ofChange floatOrderSpec)) floatOrderCard

/-- THE TIED CARD OF 'ferrymanlaw2.FloatSame'. -/
def floatSameCard : Claim7 := { stood := { row := floatSameRow, standIns := [], harness := (true, "9a188eb7700c171b54586502ea2780c10394166c1aa3caa2874c836d94fd8e2b"), looks := false }, kinds := [], alts := [], laidByText := true, laidKinds := [.data, .data, .data], laidTests := true, laidLooks := .later }
def FloatSameCardSaid : Prop := Claim7.holds Tryd.pinned (.plain (OpenSpec.ofChange floatSameSpec)) floatSameCard

/-- THE TIED CARD OF 'ferrymanlaw2.FloatWholes'. -/
def floatWholesCard : Claim7 := { stood := { row := floatWholesRow, standIns := [], harness := (true, "9a188eb7700c171b54586502ea2780c10394166c1aa3caa2874c836d94fd8e2b"), looks := false }, kinds := [], alts := [], laidByText := true, laidKinds := [.data, .data, .data], laidTests := true, laidLooks := .later }
def FloatWholesCardSaid : Prop := Claim7.holds Tryd.pinned (.plain (OpenSpec.ofChange floatWholesSpec)) floatWholesCard

/-- THE TIED CARD OF 'ferrymanlaw2.FloatSmall'. -/
def floatSmallCard : Claim7 := { stood := { row := floatSmallRow, standIns := [], harness := (true, "9a188eb7700c171b54586502ea2780c10394166c1aa3caa2874c836d94fd8e2b"), looks := false }, kinds := [], alts := [], laidByText := true, laidKinds := [.data, .data, .data], laidTests := true, laidLooks := .later }
def FloatSmallCardSaid : Prop := Claim7.holds Tryd.pinned (.plain (OpenSpec.ofChange floatSmallSpec)) floatSmallCard

/-- THE SECOND FORM's CARD OF 'ferrymanlaw2.FloatTexts'. -/
def floatTextsUptoCard : Claim7 := { stood := { row := floatTextsUptoRow, standIns := [], harness := (true, "9a188eb7700c171b54586502ea2780c10394166c1aa3caa2874c836d94fd8e2b"), looks := false }, kinds := [], alts := [], laidByText := true, laidKinds := [.data, .data, .data], laidTests := true, laidLooks := .later }
def FloatTextsUptoCardSaid : Prop := Claim7.holds Tryd.pinned (.plain (OpenSpec.upto floatTextsSpec)) floatTextsUptoCard

/-- THE SECOND FORM's CARD OF 'ferrymanlaw2.FloatTells'. -/
def floatTellsUptoCard : Claim7 := { stood := { row := floatTellsUptoRow, standIns := [], harness := (true, "9a188eb7700c171b54586502ea2780c10394166c1aa3caa2874c836d94fd8e2b"), looks := false }, kinds := [], alts := [], laidByText := true, laidKinds := [.data, .data, .data], laidTests := true, laidLooks := .later }
def FloatTellsUptoCardSaid : Prop := Claim7.holds Tryd.pinned (.plain (OpenSpec.upto floatTellsSpec)) floatTellsUptoCard

/-- THE SECOND FORM's CARD OF 'ferrymanlaw2.FloatNone'. -/
def floatNoneUptoCard : Claim7 := { stood := { row := floatNoneUptoRow, standIns := [], harness := (true, "9a188eb7700c171b54586502ea2780c10394166c1aa3caa2874c836d94fd8e2b"), looks := false }, kinds := [], alts := [], laidByText := true, laidKinds := [.data, .data, .data], laidTests := true, laidLooks := .later }
def FloatNoneUptoCardSaid : Prop := Claim7.holds Tryd.pinned (.plain (OpenSpec.upto floatNoneSpec)) floatNoneUptoCard

/-- THE SECOND FORM's CARD OF 'ferrymanlaw2.FloatEdges'. -/
def floatEdgesUptoCard : Claim7 := { stood := { row := floatEdgesUptoRow, standIns := [], harness := (true, "9a188eb7700c171b54586502ea2780c10394166c1aa3caa2874c836d94fd8e2b"), looks := false }, kinds := [], alts := [], laidByText := true, laidKinds := [.data, .data, .data], laidTests := true, laidLooks := .later }
def FloatEdgesUptoCardSaid : Prop := Claim7.holds Tryd.pinned (.plain (OpenSpec.upto floatEdgesSpec)) floatEdgesUptoCard

/-- THE SECOND FORM's CARD OF 'ferrymanlaw2.FloatOrder'. -/
def floatOrderUptoCard : Claim7 := { stood := { row := floatOrderUptoRow, standIns := [], harness := (true, "9a188eb7700c171b54586502ea2780c10394166c1aa3caa2874c836d94fd8e2b"), looks := false }, kinds := [], alts := [], laidByText := true, laidKinds := [.data, .data, .data], laidTests := true, laidLooks := .later }
def FloatOrderUptoCardSaid : Prop := Claim7.holds Tryd.pinned (.plain (OpenSpec.upto floatOrderSpec)) floatOrderUptoCard

/-- THE SECOND FORM's CARD OF 'ferrymanlaw2.FloatSame'. -/
def floatSameUptoCard : Claim7 := { stood := { row := floatSameUptoRow, standIns := [], harness := (true, "9a188eb7700c171b54586502ea2780c10394166c1aa3caa2874c836d94fd8e2b"), looks := false }, kinds := [], alts := [], laidByText := true, laidKinds := [.data, .data, .data], laidTests := true, laidLooks := .later }
def FloatSameUptoCardSaid : Prop := Claim7.holds Tryd.pinned (.plain (OpenSpec.upto floatSameSpec)) floatSameUptoCard

/-- THE SECOND FORM's CARD OF 'ferrymanlaw2.FloatWholes'. -/
def floatWholesUptoCard : Claim7 := { stood := { row := floatWholesUptoRow, standIns := [], harness := (true, "9a188eb7700c171b54586502ea2780c10394166c1aa3caa2874c836d94fd8e2b"), looks := false }, kinds := [], alts := [], laidByText := true, laidKinds := [.data, .data, .data], laidTests := true, laidLooks := .later }
def FloatWholesUptoCardSaid : Prop := Claim7.holds Tryd.pinned (.plain (OpenSpec.upto floatWholesSpec)) floatWholesUptoCard

/-- THE SECOND FORM's CARD OF 'ferrymanlaw2.FloatSmall'. -/
def floatSmallUptoCard : Claim7 := { stood := { row := floatSmallUptoRow, standIns := [], harness := (true, "9a188eb7700c171b54586502ea2780c10394166c1aa3caa2874c836d94fd8e2b"), looks := false }, kinds := [], alts := [], laidByText := true, laidKinds := [.data, .data, .data], laidTests := true, laidLooks := .later }
def FloatSmallUptoCardSaid : Prop := Claim7.holds Tryd.pinned (.plain (OpenSpec.upto floatSmallSpec)) floatSmallUptoCard
end Rows
end Go.Proofs.YtdchnlmclngjmaaDoor
