/-
  DERIVED. GIVEN WITH THE SEED: THE CARDS: each row of YtmfdpjijpbgjbaaDoorRows.lean that lists a variable, with what it lists TIED to the program's text (the seventh form; the later family's looks); each row that meets fmt, with fmt's text TOLD by the authors' own Lean function (tested against real Go, not proved from fmt's source: count such statements apart). THE CARD IS WHAT COUNTS. Prove the row's statement (the work); the ties are given (YtmfdpjijpbgjbaaDoorTie.lean); close each card by the builder's one call (the guide's Derived/Test/ToyasCard.lean, 'card_holds'). Laid BY PROGRAM, IN A SANDBOX (cutbox-door.mjs). By AI agents, Wed Nov 11 2026. No macro, syntax, notation, axiom, sorry.
-/
import Derived.Test.YtmfdpjijpbgjbaaDoorRows
import GoSem.ClaimSeven
namespace Go.Proofs.YtmfdpjijpbgjbaaDoor
namespace Rows

/-- THE TIED CARD OF 'paternosterlaw2.CellArms'. -/
def cellArmsCard : Claim7 := { stood := { row := cellArmsRow, standIns := [], harness := (true, "4f1082f0bca01724e6ebe6b4669b59e0c8be9c12850311124ffc3e2d2c7320b9"), looks := true }, kinds := [], alts := [], laidByText := true, laidKinds := [.sentinel, .sentinel, .sentinel, .sentinel, .sentinel, .sentinel, .sentinel, .sentinel, .sentinel, .sentinel, .sentinel, .sentinel, .sentinel], laidTests := true, laidLooks := .later }
def CellArmsCardSaid : Prop := Claim7.holds Tryd.pinned (.plain (OpenSpec.ofChange cellArmsSpec)) cellArmsCard

/-- THE TIED CARD OF 'paternosterlaw2.CellTwins'. -/
def cellTwinsCard : Claim7 := { stood := { row := cellTwinsRow, standIns := [], harness := (true, "4f1082f0bca01724e6ebe6b4669b59e0c8be9c12850311124ffc3e2d2c7320b9"), looks := true }, kinds := [], alts := [], laidByText := true, laidKinds := [.sentinel, .sentinel, .sentinel, .sentinel, .sentinel, .sentinel, .sentinel, .sentinel, .sentinel, .sentinel, .sentinel, .sentinel, .sentinel], laidTests := true, laidLooks := .later }
def CellTwinsCardSaid : Prop := Claim7.holds Tryd.pinned (.plain (OpenSpec.ofChange cellTwinsSpec)) cellTwinsCard

/-- THE TIED CARD OF 'paternosterlaw2.CellPlays'. -/
def cellPlaysCard : Claim7 := { stood := { row := cellPlaysRow, standIns := [], harness := (true, "4f1082f0bca01724e6ebe6b4669b59e0c8be9c12850311124ffc3e2d2c7320b9"), looks := true }, kinds := [], alts := [], laidByText := true, laidKinds := [.sentinel, .sentinel, .sentinel, .sentinel, .sentinel, .sentinel, .sentinel, .sentinel, .sentinel, .sentinel, .sentinel, .sentinel, .sentinel], laidTests := true, laidLooks := .later }
def CellPlaysCardSaid : Prop := Claim7.holds Tryd.pinned (.plain (OpenSpec.ofChange cellPlaysSpec)) cellPlaysCard

/-- THE TIED CARD OF 'paternosterlaw3.StorePlays'. -/
def storePlaysCard : Claim7 := { stood := { row := storePlaysRow, standIns := [], harness := (true, "4f1082f0bca01724e6ebe6b4669b59e0c8be9c12850311124ffc3e2d2c7320b9"), looks := true }, kinds := [], alts := [], laidByText := true, laidKinds := [.sentinel, .sentinel, .sentinel, .sentinel, .sentinel, .sentinel, .sentinel, .sentinel, .sentinel, .sentinel, .sentinel, .sentinel, .sentinel], laidTests := true, laidLooks := .later }
def StorePlaysCardSaid : Prop := Claim7.holds Tryd.pinned (.plain (OpenSpec.ofChange storePlaysSpec)) storePlaysCard

/-- THE TIED CARD OF 'paternosterlaw3.StoreFalls'. -/
def storeFallsCard : Claim7 := { stood := { row := storeFallsRow, standIns := [], harness := (true, "4f1082f0bca01724e6ebe6b4669b59e0c8be9c12850311124ffc3e2d2c7320b9"), looks := true }, kinds := [], alts := [], laidByText := true, laidKinds := [.sentinel, .sentinel, .sentinel, .sentinel], laidTests := true, laidLooks := .later }
def StoreFallsCardSaid : Prop := Claim7.holds Tryd.pinned (.plain (OpenSpec.ofChange storeFallsSpec)) storeFallsCard

/-- THE TIED CARD OF 'paternosterlaw3.StoreSmall'. -/
def storeSmallCard : Claim7 := { stood := { row := storeSmallRow, standIns := [], harness := (true, "4f1082f0bca01724e6ebe6b4669b59e0c8be9c12850311124ffc3e2d2c7320b9"), looks := true }, kinds := [], alts := [], laidByText := true, laidKinds := [.sentinel, .sentinel, .sentinel, .sentinel, .sentinel, .sentinel, .sentinel, .sentinel, .sentinel, .sentinel, .sentinel, .sentinel, .sentinel], laidTests := true, laidLooks := .later }
def StoreSmallCardSaid : Prop := Claim7.holds Tryd.pinned (.plain (OpenSpec.ofChange storeSmallSpec)) storeSmallCard

/-- THE TIED CARD OF 'paternosterlaw3.StoreTurns'. -/
def storeTurnsCard : Claim7 := { stood := { row := storeTurnsRow, standIns := [], harness := (true, "4f1082f0bca01724e6ebe6b4669b59e0c8be9c12850311124ffc3e2d2c7320b9"), looks := true }, kinds := [], alts := [], laidByText := true, laidKinds := [.sentinel, .sentinel, .sentinel, .sentinel], laidTests := true, laidLooks := .later }
def StoreTurnsCardSaid : Prop := Claim7.holds Tryd.pinned (.plain (OpenSpec.ofChange storeTurnsSpec)) storeTurnsCard

/-- THE TIED CARD OF 'paternosterlaw3.StoreRaw'. -/
def storeRawCard : Claim7 := { stood := { row := storeRawRow, standIns := [], harness := (true, "4f1082f0bca01724e6ebe6b4669b59e0c8be9c12850311124ffc3e2d2c7320b9"), looks := true }, kinds := [], alts := [], laidByText := true, laidKinds := [.sentinel, .sentinel, .sentinel, .sentinel], laidTests := true, laidLooks := .later }
def StoreRawCardSaid : Prop := Claim7.holds Tryd.pinned (.plain (OpenSpec.ofChange storeRawSpec)) storeRawCard

/-- THE TIED CARD OF 'paternosterlaw3.StoreTears'. -/
def storeTearsCard : Claim7 := { stood := { row := storeTearsRow, standIns := [], harness := (true, "4f1082f0bca01724e6ebe6b4669b59e0c8be9c12850311124ffc3e2d2c7320b9"), looks := true }, kinds := [], alts := [], laidByText := true, laidKinds := [.sentinel, .sentinel, .sentinel, .sentinel, .sentinel, .sentinel, .sentinel, .sentinel, .sentinel, .sentinel, .sentinel, .sentinel, .sentinel], laidTests := true, laidLooks := .later }
def StoreTearsCardSaid : Prop := Claim7.holds Tryd.pinned (.plain (OpenSpec.ofChange storeTearsSpec)) storeTearsCard

/-- THE SECOND FORM's CARD OF 'paternosterlaw2.CellArms'. -/
def cellArmsUptoCard : Claim7 := { stood := { row := cellArmsUptoRow, standIns := [], harness := (true, "4f1082f0bca01724e6ebe6b4669b59e0c8be9c12850311124ffc3e2d2c7320b9"), looks := true }, kinds := [], alts := [], laidByText := true, laidKinds := [.sentinel, .sentinel, .sentinel, .sentinel, .sentinel, .sentinel, .sentinel, .sentinel, .sentinel, .sentinel, .sentinel, .sentinel, .sentinel], laidTests := true, laidLooks := .later }
def CellArmsUptoCardSaid : Prop := Claim7.holds Tryd.pinned (.plain (OpenSpec.upto cellArmsSpec)) cellArmsUptoCard

/-- THE SECOND FORM's CARD OF 'paternosterlaw2.CellTwins'. -/
def cellTwinsUptoCard : Claim7 := { stood := { row := cellTwinsUptoRow, standIns := [], harness := (true, "4f1082f0bca01724e6ebe6b4669b59e0c8be9c12850311124ffc3e2d2c7320b9"), looks := true }, kinds := [], alts := [], laidByText := true, laidKinds := [.sentinel, .sentinel, .sentinel, .sentinel, .sentinel, .sentinel, .sentinel, .sentinel, .sentinel, .sentinel, .sentinel, .sentinel, .sentinel], laidTests := true, laidLooks := .later }
def CellTwinsUptoCardSaid : Prop := Claim7.holds Tryd.pinned (.plain (OpenSpec.upto cellTwinsSpec)) cellTwinsUptoCard

/-- THE SECOND FORM's CARD OF 'paternosterlaw2.CellPlays'. -/
def cellPlaysUptoCard : Claim7 := { stood := { row := cellPlaysUptoRow, standIns := [], harness := (true, "4f1082f0bca01724e6ebe6b4669b59e0c8be9c12850311124ffc3e2d2c7320b9"), looks := true }, kinds := [], alts := [], laidByText := true, laidKinds := [.sentinel, .sentinel, .sentinel, .sentinel, .sentinel, .sentinel, .sentinel, .sentinel, .sentinel, .sentinel, .sentinel, .sentinel, .sentinel], laidTests := true, laidLooks := .later }
def CellPlaysUptoCardSaid : Prop := Claim7.holds Tryd.pinned (.plain (OpenSpec.upto cellPlaysSpec)) cellPlaysUptoCard

/-- THE SECOND FORM's CARD OF 'paternosterlaw3.StorePlays'. -/
def storePlaysUptoCard : Claim7 := { stood := { row := storePlaysUptoRow, standIns := [], harness := (true, "4f1082f0bca01724e6ebe6b4669b59e0c8be9c12850311124ffc3e2d2c7320b9"), looks := true }, kinds := [], alts := [], laidByText := true, laidKinds := [.sentinel, .sentinel, .sentinel, .sentinel, .sentinel, .sentinel, .sentinel, .sentinel, .sentinel, .sentinel, .sentinel, .sentinel, .sentinel], laidTests := true, laidLooks := .later }
def StorePlaysUptoCardSaid : Prop := Claim7.holds Tryd.pinned (.plain (OpenSpec.upto storePlaysSpec)) storePlaysUptoCard

/-- THE SECOND FORM's CARD OF 'paternosterlaw3.StoreFalls'. -/
def storeFallsUptoCard : Claim7 := { stood := { row := storeFallsUptoRow, standIns := [], harness := (true, "4f1082f0bca01724e6ebe6b4669b59e0c8be9c12850311124ffc3e2d2c7320b9"), looks := true }, kinds := [], alts := [], laidByText := true, laidKinds := [.sentinel, .sentinel, .sentinel, .sentinel], laidTests := true, laidLooks := .later }
def StoreFallsUptoCardSaid : Prop := Claim7.holds Tryd.pinned (.plain (OpenSpec.upto storeFallsSpec)) storeFallsUptoCard

/-- THE SECOND FORM's CARD OF 'paternosterlaw3.StoreSmall'. -/
def storeSmallUptoCard : Claim7 := { stood := { row := storeSmallUptoRow, standIns := [], harness := (true, "4f1082f0bca01724e6ebe6b4669b59e0c8be9c12850311124ffc3e2d2c7320b9"), looks := true }, kinds := [], alts := [], laidByText := true, laidKinds := [.sentinel, .sentinel, .sentinel, .sentinel, .sentinel, .sentinel, .sentinel, .sentinel, .sentinel, .sentinel, .sentinel, .sentinel, .sentinel], laidTests := true, laidLooks := .later }
def StoreSmallUptoCardSaid : Prop := Claim7.holds Tryd.pinned (.plain (OpenSpec.upto storeSmallSpec)) storeSmallUptoCard

/-- THE SECOND FORM's CARD OF 'paternosterlaw3.StoreTurns'. -/
def storeTurnsUptoCard : Claim7 := { stood := { row := storeTurnsUptoRow, standIns := [], harness := (true, "4f1082f0bca01724e6ebe6b4669b59e0c8be9c12850311124ffc3e2d2c7320b9"), looks := true }, kinds := [], alts := [], laidByText := true, laidKinds := [.sentinel, .sentinel, .sentinel, .sentinel], laidTests := true, laidLooks := .later }
def StoreTurnsUptoCardSaid : Prop := Claim7.holds Tryd.pinned (.plain (OpenSpec.upto storeTurnsSpec)) storeTurnsUptoCard

/-- THE SECOND FORM's CARD OF 'paternosterlaw3.StoreRaw'. -/
def storeRawUptoCard : Claim7 := { stood := { row := storeRawUptoRow, standIns := [], harness := (true, "4f1082f0bca01724e6ebe6b4669b59e0c8be9c12850311124ffc3e2d2c7320b9"), looks := true }, kinds := [], alts := [], laidByText := true, laidKinds := [.sentinel, .sentinel, .sentinel, .sentinel], laidTests := true, laidLooks := .later }
def StoreRawUptoCardSaid : Prop := Claim7.holds Tryd.pinned (.plain (OpenSpec.upto storeRawSpec)) storeRawUptoCard

/-- THE SECOND FORM's CARD OF 'paternosterlaw3.StoreTears'. -/
def storeTearsUptoCard : Claim7 := { stood := { row := storeTearsUptoRow, standIns := [], harness := (true, "4f1082f0bca01724e6ebe6b4669b59e0c8be9c12850311124ffc3e2d2c7320b9"), looks := true }, kinds := [], alts := [], laidByText := true, laidKinds := [.sentinel, .sentinel, .sentinel, .sentinel, .sentinel, .sentinel, .sentinel, .sentinel, .sentinel, .sentinel, .sentinel, .sentinel, .sentinel], laidTests := true, laidLooks := .later }
def StoreTearsUptoCardSaid : Prop := Claim7.holds Tryd.pinned (.plain (OpenSpec.upto storeTearsSpec)) storeTearsUptoCard
end Rows
end Go.Proofs.YtmfdpjijpbgjbaaDoor
