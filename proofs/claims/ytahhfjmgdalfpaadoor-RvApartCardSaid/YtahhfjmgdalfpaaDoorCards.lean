/-
  DERIVED. GIVEN WITH THE SEED: THE CARDS: each row of YtahhfjmgdalfpaaDoorRows.lean that lists a variable, with what it lists TIED to the program's text (the seventh form; the later family's looks); each row that meets fmt, with fmt's text TOLD by the authors' own Lean function (tested against real Go, not proved from fmt's source: count such statements apart). THE CARD IS WHAT COUNTS. Prove the row's statement (the work); the ties are given (YtahhfjmgdalfpaaDoorTie.lean); close each card by the builder's one call (the guide's Derived/Test/ToyasCard.lean, 'card_holds'). Laid BY PROGRAM, IN A SANDBOX (cutbox-door.mjs). By AI agents, Wed Nov 11 2026. No macro, syntax, notation, axiom, sorry.
-/
import Derived.Test.YtahhfjmgdalfpaaDoorRows
import GoSem.ClaimSeven
namespace Go.Proofs.YtahhfjmgdalfpaaDoor
namespace Rows

/-- THE TIED CARD OF 'ferrymanlaw3.RvTells'. -/
def rvTellsCard : Claim7 := { stood := { row := rvTellsRow, standIns := [], harness := (true, "50a16eb730f5467477ca0521ca913c3b65d36070fb0e79eb7a7a4ae673c0f7c2"), looks := false }, kinds := [], alts := [], laidByText := true, laidKinds := [.data, .data, .data], laidTests := true, laidLooks := .later }
def RvTellsCardSaid : Prop := Claim7.holds Tryd.pinned (.plain (OpenSpec.ofChange rvTellsSpec)) rvTellsCard

/-- THE TIED CARD OF 'ferrymanlaw3.RvReads'. -/
def rvReadsCard : Claim7 := { stood := { row := rvReadsRow, standIns := [], harness := (true, "50a16eb730f5467477ca0521ca913c3b65d36070fb0e79eb7a7a4ae673c0f7c2"), looks := false }, kinds := [], alts := [], laidByText := true, laidKinds := [.data, .data, .data], laidTests := true, laidLooks := .later }
def RvReadsCardSaid : Prop := Claim7.holds Tryd.pinned (.plain (OpenSpec.ofChange rvReadsSpec)) rvReadsCard

/-- THE TIED CARD OF 'ferrymanlaw3.RvBack'. -/
def rvBackCard : Claim7 := { stood := { row := rvBackRow, standIns := [], harness := (true, "50a16eb730f5467477ca0521ca913c3b65d36070fb0e79eb7a7a4ae673c0f7c2"), looks := false }, kinds := [], alts := [], laidByText := true, laidKinds := [.data, .data, .data], laidTests := true, laidLooks := .later }
def RvBackCardSaid : Prop := Claim7.holds Tryd.pinned (.plain (OpenSpec.ofChange rvBackSpec)) rvBackCard

/-- THE TIED CARD OF 'ferrymanlaw3.RvApart'. -/
def rvApartCard : Claim7 := { stood := { row := rvApartRow, standIns := [], harness := (true, "50a16eb730f5467477ca0521ca913c3b65d36070fb0e79eb7a7a4ae673c0f7c2"), looks := false }, kinds := [], alts := [], laidByText := true, laidKinds := [.data, .data, .data], laidTests := true, laidLooks := .later }
def RvApartCardSaid : Prop := Claim7.holds Tryd.pinned (.plain (OpenSpec.ofChange rvApartSpec)) rvApartCard

/-- THE TIED CARD OF 'ferrymanlaw3.RvRanges'. -/
def rvRangesCard : Claim7 := { stood := { row := rvRangesRow, standIns := [], harness := (true, "50a16eb730f5467477ca0521ca913c3b65d36070fb0e79eb7a7a4ae673c0f7c2"), looks := false }, kinds := [], alts := [], laidByText := true, laidKinds := [.data, .data, .data], laidTests := true, laidLooks := .later }
def RvRangesCardSaid : Prop := Claim7.holds Tryd.pinned (.plain (OpenSpec.ofChange rvRangesSpec)) rvRangesCard

/-- THE TIED CARD OF 'ferrymanlaw3.RvFields'. -/
def rvFieldsCard : Claim7 := { stood := { row := rvFieldsRow, standIns := [], harness := (true, "50a16eb730f5467477ca0521ca913c3b65d36070fb0e79eb7a7a4ae673c0f7c2"), looks := false }, kinds := [], alts := [], laidByText := true, laidKinds := [.data, .data, .data], laidTests := true, laidLooks := .later }
def RvFieldsCardSaid : Prop := Claim7.holds Tryd.pinned (.plain (OpenSpec.ofChange rvFieldsSpec)) rvFieldsCard

/-- THE TIED CARD OF 'ferrymanlaw3.RvNumbers'. -/
def rvNumbersCard : Claim7 := { stood := { row := rvNumbersRow, standIns := [], harness := (true, "50a16eb730f5467477ca0521ca913c3b65d36070fb0e79eb7a7a4ae673c0f7c2"), looks := false }, kinds := [], alts := [], laidByText := true, laidKinds := [.data, .data, .data], laidTests := true, laidLooks := .later }
def RvNumbersCardSaid : Prop := Claim7.holds Tryd.pinned (.plain (OpenSpec.ofChange rvNumbersSpec)) rvNumbersCard

/-- THE SECOND FORM's CARD OF 'ferrymanlaw3.RvTells'. -/
def rvTellsUptoCard : Claim7 := { stood := { row := rvTellsUptoRow, standIns := [], harness := (true, "50a16eb730f5467477ca0521ca913c3b65d36070fb0e79eb7a7a4ae673c0f7c2"), looks := false }, kinds := [], alts := [], laidByText := true, laidKinds := [.data, .data, .data], laidTests := true, laidLooks := .later }
def RvTellsUptoCardSaid : Prop := Claim7.holds Tryd.pinned (.plain (OpenSpec.upto rvTellsSpec)) rvTellsUptoCard

/-- THE SECOND FORM's CARD OF 'ferrymanlaw3.RvReads'. -/
def rvReadsUptoCard : Claim7 := { stood := { row := rvReadsUptoRow, standIns := [], harness := (true, "50a16eb730f5467477ca0521ca913c3b65d36070fb0e79eb7a7a4ae673c0f7c2"), looks := false }, kinds := [], alts := [], laidByText := true, laidKinds := [.data, .data, .data], laidTests := true, laidLooks := .later }
def RvReadsUptoCardSaid : Prop := Claim7.holds Tryd.pinned (.plain (OpenSpec.upto rvReadsSpec)) rvReadsUptoCard

/-- THE SECOND FORM's CARD OF 'ferrymanlaw3.RvBack'. -/
def rvBackUptoCard : Claim7 := { stood := { row := rvBackUptoRow, standIns := [], harness := (true, "50a16eb730f5467477ca0521ca913c3b65d36070fb0e79eb7a7a4ae673c0f7c2"), looks := false }, kinds := [], alts := [], laidByText := true, laidKinds := [.data, .data, .data], laidTests := true, laidLooks := .later }
def RvBackUptoCardSaid : Prop := Claim7.holds Tryd.pinned (.plain (OpenSpec.upto rvBackSpec)) rvBackUptoCard

/-- THE SECOND FORM's CARD OF 'ferrymanlaw3.RvApart'. -/
def rvApartUptoCard : Claim7 := { stood := { row := rvApartUptoRow, standIns := [], harness := (true, "50a16eb730f5467477ca0521ca913c3b65d36070fb0e79eb7a7a4ae673c0f7c2"), looks := false }, kinds := [], alts := [], laidByText := true, laidKinds := [.data, .data, .data], laidTests := true, laidLooks := .later }
def RvApartUptoCardSaid : Prop := Claim7.holds Tryd.pinned (.plain (OpenSpec.upto rvApartSpec)) rvApartUptoCard

/-- THE SECOND FORM's CARD OF 'ferrymanlaw3.RvRanges'. -/
def rvRangesUptoCard : Claim7 := { stood := { row := rvRangesUptoRow, standIns := [], harness := (true, "50a16eb730f5467477ca0521ca913c3b65d36070fb0e79eb7a7a4ae673c0f7c2"), looks := false }, kinds := [], alts := [], laidByText := true, laidKinds := [.data, .data, .data], laidTests := true, laidLooks := .later }
def RvRangesUptoCardSaid : Prop := Claim7.holds Tryd.pinned (.plain (OpenSpec.upto rvRangesSpec)) rvRangesUptoCard

/-- THE SECOND FORM's CARD OF 'ferrymanlaw3.RvFields'. -/
def rvFieldsUptoCard : Claim7 := { stood := { row := rvFieldsUptoRow, standIns := [], harness := (true, "50a16eb730f5467477ca0521ca913c3b65d36070fb0e79eb7a7a4ae673c0f7c2"), looks := false }, kinds := [], alts := [], laidByText := true, laidKinds := [.data, .data, .data], laidTests := true, laidLooks := .later }
def RvFieldsUptoCardSaid : Prop := Claim7.holds Tryd.pinned (.plain (OpenSpec.upto rvFieldsSpec)) rvFieldsUptoCard

/-- THE SECOND FORM's CARD OF 'ferrymanlaw3.RvNumbers'. -/
def rvNumbersUptoCard : Claim7 := { stood := { row := rvNumbersUptoRow, standIns := [], harness := (true, "50a16eb730f5467477ca0521ca913c3b65d36070fb0e79eb7a7a4ae673c0f7c2"), looks := false }, kinds := [], alts := [], laidByText := true, laidKinds := [.data, .data, .data], laidTests := true, laidLooks := .later }
def RvNumbersUptoCardSaid : Prop := Claim7.holds Tryd.pinned (.plain (OpenSpec.upto rvNumbersSpec)) rvNumbersUptoCard
end Rows
end Go.Proofs.YtahhfjmgdalfpaaDoor
