/-
  DERIVED. GIVEN WITH THE SEED: THE CARDS: each row of YtogcbiooddodlaaDoorRows.lean that lists a variable, with what it lists TIED to the program's text (the seventh form; the later family's looks); each row that meets fmt, with fmt's text TOLD by the authors' own Lean function (tested against real Go, not proved from fmt's source: count such statements apart). THE CARD IS WHAT COUNTS. Prove the row's statement (the work); the ties are given (YtogcbiooddodlaaDoorTie.lean); close each card by the builder's one call (the guide's Derived/Test/ToyasCard.lean, 'card_holds'). Laid BY PROGRAM, IN A SANDBOX (cutbox-door.mjs). By AI agents, Wed Nov 11 2026. No macro, syntax, notation, axiom, sorry.
-/
import Derived.Test.YtogcbiooddodlaaDoorRows
import GoSem.ClaimSeven
namespace Go.Proofs.YtogcbiooddodlaaDoor
namespace Rows

/-- THE TIED CARD OF 'paternosterlaw1.WireForms'. -/
def wireFormsCard : Claim7 := { stood := { row := wireFormsRow, standIns := [], harness := (true, "3264ea4107dcfffe17eb2b563e854d840980101bd50ddc0c3d4395d0d5057e49"), looks := true }, kinds := [], alts := [], laidByText := true, laidKinds := [.sentinel, .sentinel, .sentinel, .sentinel, .sentinel, .sentinel, .sentinel, .sentinel, .sentinel, .sentinel, .sentinel, .sentinel, .sentinel], laidTests := true, laidLooks := .later }
def WireFormsCardSaid : Prop := Claim7.holds Tryd.pinned (.plain (OpenSpec.ofChange wireFormsSpec)) wireFormsCard

/-- THE TIED CARD OF 'paternosterlaw1.WireTwins'. -/
def wireTwinsCard : Claim7 := { stood := { row := wireTwinsRow, standIns := [], harness := (true, "3264ea4107dcfffe17eb2b563e854d840980101bd50ddc0c3d4395d0d5057e49"), looks := true }, kinds := [], alts := [], laidByText := true, laidKinds := [.sentinel, .sentinel, .sentinel], laidTests := true, laidLooks := .later }
def WireTwinsCardSaid : Prop := Claim7.holds Tryd.pinned (.plain (OpenSpec.ofChange wireTwinsSpec)) wireTwinsCard

/-- THE TIED CARD OF 'paternosterlaw1.WirePuts'. -/
def wirePutsCard : Claim7 := { stood := { row := wirePutsRow, standIns := [], harness := (true, "3264ea4107dcfffe17eb2b563e854d840980101bd50ddc0c3d4395d0d5057e49"), looks := true }, kinds := [], alts := [], laidByText := true, laidKinds := [.sentinel, .sentinel, .sentinel], laidTests := true, laidLooks := .later }
def WirePutsCardSaid : Prop := Claim7.holds Tryd.pinned (.plain (OpenSpec.ofChange wirePutsSpec)) wirePutsCard

/-- THE TIED CARD OF 'paternosterlaw1.WireRanges'. -/
def wireRangesCard : Claim7 := { stood := { row := wireRangesRow, standIns := [], harness := (true, "3264ea4107dcfffe17eb2b563e854d840980101bd50ddc0c3d4395d0d5057e49"), looks := true }, kinds := [], alts := [], laidByText := true, laidKinds := [.sentinel, .sentinel, .sentinel, .sentinel, .sentinel, .sentinel, .sentinel, .sentinel, .sentinel, .sentinel, .sentinel, .sentinel, .sentinel], laidTests := true, laidLooks := .later }
def WireRangesCardSaid : Prop := Claim7.holds Tryd.pinned (.plain (OpenSpec.ofChange wireRangesSpec)) wireRangesCard

/-- THE TIED CARD OF 'paternosterlaw1.WireRows'. -/
def wireRowsCard : Claim7 := { stood := { row := wireRowsRow, standIns := [], harness := (true, "3264ea4107dcfffe17eb2b563e854d840980101bd50ddc0c3d4395d0d5057e49"), looks := true }, kinds := [], alts := [], laidByText := true, laidKinds := [.sentinel, .sentinel, .sentinel, .sentinel, .sentinel, .sentinel, .sentinel, .sentinel, .sentinel, .sentinel, .sentinel, .sentinel, .sentinel], laidTests := true, laidLooks := .later }
def WireRowsCardSaid : Prop := Claim7.holds Tryd.pinned (.plain (OpenSpec.ofChange wireRowsSpec)) wireRowsCard

/-- THE TIED CARD OF 'paternosterlaw1.WireLengths'. -/
def wireLengthsCard : Claim7 := { stood := { row := wireLengthsRow, standIns := [], harness := (true, "3264ea4107dcfffe17eb2b563e854d840980101bd50ddc0c3d4395d0d5057e49"), looks := true }, kinds := [], alts := [], laidByText := true, laidKinds := [.sentinel, .sentinel, .sentinel, .sentinel, .sentinel, .sentinel, .sentinel, .sentinel, .sentinel, .sentinel, .sentinel, .sentinel, .sentinel], laidTests := true, laidLooks := .later }
def WireLengthsCardSaid : Prop := Claim7.holds Tryd.pinned (.plain (OpenSpec.ofChange wireLengthsSpec)) wireLengthsCard

/-- THE TIED CARD OF 'paternosterlaw5.FrameRings'. -/
def frameRingsCard : Claim7 := { stood := { row := frameRingsRow, standIns := [], harness := (true, "3264ea4107dcfffe17eb2b563e854d840980101bd50ddc0c3d4395d0d5057e49"), looks := true }, kinds := [], alts := [], laidByText := true, laidKinds := [.sentinel, .sentinel, .sentinel, .sentinel, .sentinel, .sentinel, .sentinel, .sentinel, .sentinel, .sentinel, .sentinel, .sentinel, .sentinel], laidTests := true, laidLooks := .later }
def FrameRingsCardSaid : Prop := Claim7.holds Tryd.pinned (.plain (OpenSpec.ofChange frameRingsSpec)) frameRingsCard

/-- THE TIED CARD OF 'paternosterlaw5.FrameOwn'. -/
def frameOwnCard : Claim7 := { stood := { row := frameOwnRow, standIns := [], harness := (true, "3264ea4107dcfffe17eb2b563e854d840980101bd50ddc0c3d4395d0d5057e49"), looks := true }, kinds := [], alts := [], laidByText := true, laidKinds := [.sentinel, .sentinel, .sentinel, .sentinel], laidTests := true, laidLooks := .later }
def FrameOwnCardSaid : Prop := Claim7.holds Tryd.pinned (.plain (OpenSpec.ofChange frameOwnSpec)) frameOwnCard

/-- THE TIED CARD OF 'paternosterlaw5.FrameBeats'. -/
def frameBeatsCard : Claim7 := { stood := { row := frameBeatsRow, standIns := [], harness := (true, "3264ea4107dcfffe17eb2b563e854d840980101bd50ddc0c3d4395d0d5057e49"), looks := true }, kinds := [], alts := [], laidByText := true, laidKinds := [.sentinel, .sentinel, .sentinel, .sentinel, .sentinel, .sentinel, .sentinel, .sentinel, .sentinel, .sentinel, .sentinel, .sentinel, .sentinel], laidTests := true, laidLooks := .later }
def FrameBeatsCardSaid : Prop := Claim7.holds Tryd.pinned (.plain (OpenSpec.ofChange frameBeatsSpec)) frameBeatsCard

/-- THE TIED CARD OF 'paternosterlaw5.FrameBack'. -/
def frameBackCard : Claim7 := { stood := { row := frameBackRow, standIns := [], harness := (true, "3264ea4107dcfffe17eb2b563e854d840980101bd50ddc0c3d4395d0d5057e49"), looks := true }, kinds := [], alts := [], laidByText := true, laidKinds := [.sentinel, .sentinel, .sentinel, .sentinel, .sentinel, .sentinel], laidTests := true, laidLooks := .later }
def FrameBackCardSaid : Prop := Claim7.holds Tryd.pinned (.plain (OpenSpec.ofChange frameBackSpec)) frameBackCard

/-- THE TIED CARD OF 'paternosterlaw5.FrameSays'. -/
def frameSaysCard : Claim7 := { stood := { row := frameSaysRow, standIns := [], harness := (true, "3264ea4107dcfffe17eb2b563e854d840980101bd50ddc0c3d4395d0d5057e49"), looks := true }, kinds := [], alts := [], laidByText := true, laidKinds := [.sentinel, .sentinel, .sentinel, .sentinel, .sentinel, .sentinel, .sentinel, .sentinel, .sentinel, .sentinel, .sentinel, .sentinel, .sentinel], laidTests := true, laidLooks := .later }
def FrameSaysCardSaid : Prop := Claim7.holds Tryd.pinned (.plain (OpenSpec.ofChange frameSaysSpec)) frameSaysCard

/-- THE SECOND FORM's CARD OF 'paternosterlaw1.WireForms'. -/
def wireFormsUptoCard : Claim7 := { stood := { row := wireFormsUptoRow, standIns := [], harness := (true, "3264ea4107dcfffe17eb2b563e854d840980101bd50ddc0c3d4395d0d5057e49"), looks := true }, kinds := [], alts := [], laidByText := true, laidKinds := [.sentinel, .sentinel, .sentinel, .sentinel, .sentinel, .sentinel, .sentinel, .sentinel, .sentinel, .sentinel, .sentinel, .sentinel, .sentinel], laidTests := true, laidLooks := .later }
def WireFormsUptoCardSaid : Prop := Claim7.holds Tryd.pinned (.plain (OpenSpec.upto wireFormsSpec)) wireFormsUptoCard

/-- THE SECOND FORM's CARD OF 'paternosterlaw1.WireTwins'. -/
def wireTwinsUptoCard : Claim7 := { stood := { row := wireTwinsUptoRow, standIns := [], harness := (true, "3264ea4107dcfffe17eb2b563e854d840980101bd50ddc0c3d4395d0d5057e49"), looks := true }, kinds := [], alts := [], laidByText := true, laidKinds := [.sentinel, .sentinel, .sentinel], laidTests := true, laidLooks := .later }
def WireTwinsUptoCardSaid : Prop := Claim7.holds Tryd.pinned (.plain (OpenSpec.upto wireTwinsSpec)) wireTwinsUptoCard

/-- THE SECOND FORM's CARD OF 'paternosterlaw1.WirePuts'. -/
def wirePutsUptoCard : Claim7 := { stood := { row := wirePutsUptoRow, standIns := [], harness := (true, "3264ea4107dcfffe17eb2b563e854d840980101bd50ddc0c3d4395d0d5057e49"), looks := true }, kinds := [], alts := [], laidByText := true, laidKinds := [.sentinel, .sentinel, .sentinel], laidTests := true, laidLooks := .later }
def WirePutsUptoCardSaid : Prop := Claim7.holds Tryd.pinned (.plain (OpenSpec.upto wirePutsSpec)) wirePutsUptoCard

/-- THE SECOND FORM's CARD OF 'paternosterlaw1.WireRanges'. -/
def wireRangesUptoCard : Claim7 := { stood := { row := wireRangesUptoRow, standIns := [], harness := (true, "3264ea4107dcfffe17eb2b563e854d840980101bd50ddc0c3d4395d0d5057e49"), looks := true }, kinds := [], alts := [], laidByText := true, laidKinds := [.sentinel, .sentinel, .sentinel, .sentinel, .sentinel, .sentinel, .sentinel, .sentinel, .sentinel, .sentinel, .sentinel, .sentinel, .sentinel], laidTests := true, laidLooks := .later }
def WireRangesUptoCardSaid : Prop := Claim7.holds Tryd.pinned (.plain (OpenSpec.upto wireRangesSpec)) wireRangesUptoCard

/-- THE SECOND FORM's CARD OF 'paternosterlaw1.WireRows'. -/
def wireRowsUptoCard : Claim7 := { stood := { row := wireRowsUptoRow, standIns := [], harness := (true, "3264ea4107dcfffe17eb2b563e854d840980101bd50ddc0c3d4395d0d5057e49"), looks := true }, kinds := [], alts := [], laidByText := true, laidKinds := [.sentinel, .sentinel, .sentinel, .sentinel, .sentinel, .sentinel, .sentinel, .sentinel, .sentinel, .sentinel, .sentinel, .sentinel, .sentinel], laidTests := true, laidLooks := .later }
def WireRowsUptoCardSaid : Prop := Claim7.holds Tryd.pinned (.plain (OpenSpec.upto wireRowsSpec)) wireRowsUptoCard

/-- THE SECOND FORM's CARD OF 'paternosterlaw1.WireLengths'. -/
def wireLengthsUptoCard : Claim7 := { stood := { row := wireLengthsUptoRow, standIns := [], harness := (true, "3264ea4107dcfffe17eb2b563e854d840980101bd50ddc0c3d4395d0d5057e49"), looks := true }, kinds := [], alts := [], laidByText := true, laidKinds := [.sentinel, .sentinel, .sentinel, .sentinel, .sentinel, .sentinel, .sentinel, .sentinel, .sentinel, .sentinel, .sentinel, .sentinel, .sentinel], laidTests := true, laidLooks := .later }
def WireLengthsUptoCardSaid : Prop := Claim7.holds Tryd.pinned (.plain (OpenSpec.upto wireLengthsSpec)) wireLengthsUptoCard

/-- THE SECOND FORM's CARD OF 'paternosterlaw5.FrameRings'. -/
def frameRingsUptoCard : Claim7 := { stood := { row := frameRingsUptoRow, standIns := [], harness := (true, "3264ea4107dcfffe17eb2b563e854d840980101bd50ddc0c3d4395d0d5057e49"), looks := true }, kinds := [], alts := [], laidByText := true, laidKinds := [.sentinel, .sentinel, .sentinel, .sentinel, .sentinel, .sentinel, .sentinel, .sentinel, .sentinel, .sentinel, .sentinel, .sentinel, .sentinel], laidTests := true, laidLooks := .later }
def FrameRingsUptoCardSaid : Prop := Claim7.holds Tryd.pinned (.plain (OpenSpec.upto frameRingsSpec)) frameRingsUptoCard

/-- THE SECOND FORM's CARD OF 'paternosterlaw5.FrameOwn'. -/
def frameOwnUptoCard : Claim7 := { stood := { row := frameOwnUptoRow, standIns := [], harness := (true, "3264ea4107dcfffe17eb2b563e854d840980101bd50ddc0c3d4395d0d5057e49"), looks := true }, kinds := [], alts := [], laidByText := true, laidKinds := [.sentinel, .sentinel, .sentinel, .sentinel], laidTests := true, laidLooks := .later }
def FrameOwnUptoCardSaid : Prop := Claim7.holds Tryd.pinned (.plain (OpenSpec.upto frameOwnSpec)) frameOwnUptoCard

/-- THE SECOND FORM's CARD OF 'paternosterlaw5.FrameBeats'. -/
def frameBeatsUptoCard : Claim7 := { stood := { row := frameBeatsUptoRow, standIns := [], harness := (true, "3264ea4107dcfffe17eb2b563e854d840980101bd50ddc0c3d4395d0d5057e49"), looks := true }, kinds := [], alts := [], laidByText := true, laidKinds := [.sentinel, .sentinel, .sentinel, .sentinel, .sentinel, .sentinel, .sentinel, .sentinel, .sentinel, .sentinel, .sentinel, .sentinel, .sentinel], laidTests := true, laidLooks := .later }
def FrameBeatsUptoCardSaid : Prop := Claim7.holds Tryd.pinned (.plain (OpenSpec.upto frameBeatsSpec)) frameBeatsUptoCard

/-- THE SECOND FORM's CARD OF 'paternosterlaw5.FrameBack'. -/
def frameBackUptoCard : Claim7 := { stood := { row := frameBackUptoRow, standIns := [], harness := (true, "3264ea4107dcfffe17eb2b563e854d840980101bd50ddc0c3d4395d0d5057e49"), looks := true }, kinds := [], alts := [], laidByText := true, laidKinds := [.sentinel, .sentinel, .sentinel, .sentinel, .sentinel, .sentinel], laidTests := true, laidLooks := .later }
def FrameBackUptoCardSaid : Prop := Claim7.holds Tryd.pinned (.plain (OpenSpec.upto frameBackSpec)) frameBackUptoCard

/-- THE SECOND FORM's CARD OF 'paternosterlaw5.FrameSays'. -/
def frameSaysUptoCard : Claim7 := { stood := { row := frameSaysUptoRow, standIns := [], harness := (true, "3264ea4107dcfffe17eb2b563e854d840980101bd50ddc0c3d4395d0d5057e49"), looks := true }, kinds := [], alts := [], laidByText := true, laidKinds := [.sentinel, .sentinel, .sentinel, .sentinel, .sentinel, .sentinel, .sentinel, .sentinel, .sentinel, .sentinel, .sentinel, .sentinel, .sentinel], laidTests := true, laidLooks := .later }
def FrameSaysUptoCardSaid : Prop := Claim7.holds Tryd.pinned (.plain (OpenSpec.upto frameSaysSpec)) frameSaysUptoCard
end Rows
end Go.Proofs.YtogcbiooddodlaaDoor
