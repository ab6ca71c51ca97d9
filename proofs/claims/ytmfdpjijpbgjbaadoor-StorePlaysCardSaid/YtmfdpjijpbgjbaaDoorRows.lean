/-
  NARROWER THAN 'FOR EVERY INPUT', by the rows' own cells (each row's printed sentence says how): CellArms: laid · CellTwins: laid · CellPlays: laid · StorePlays: laid · StoreFalls: laid · StoreSmall: laid · StoreTurns: laid · StoreRaw: laid · StoreTears: laid.
  DERIVED. THE GIVEN ROWS OF THIS SEAT. 9 by the template 'for every input the law returns true; each argument reads behind the call as it read before'; 0 by the template 'total and deterministic' (their statements: YtmfdpjijpbgjbaaDoorTotals.lean).
  GIVEN WITH THE SEED: the statements are not yours to turn. If you find one false, say at which input.
  Laid BY PROGRAM, IN A SANDBOX (cutbox-rows.mjs): the forced cells as the released guide's own fill.sh prints them over the translation 9a184287ed4b3f32… (all of the seat's roots in one cut). By AI agents, Wed Nov 11 2026. No macro, syntax, notation, axiom, sorry.
-/
import Derived.Test.YtmfdpjijpbgjbaaDoorChecked
import GoSem.Claim
import GoSem.ClaimJoined
import GoSem.ClaimMapViews
import Derived.JoinedTies
import Derived.KernelRfl
namespace Go.Proofs.YtmfdpjijpbgjbaaDoor
/- THE CELL 'sum', in the pinned program and in every row, IS THE sha256 OF THE DUMP (.gsa) THAT YtmfdpjijpbgjbaaDoorProg.lean LOADS. Nothing in Lean hashes anything: it is a label: what it is worth is what the hold of that sum in a sandbox is worth. -/
noncomputable def Tryd.pinned : Pinned := { name := "ytmfdpjijpbgjbaadoor", sum := "9a184287ed4b3f32cb964d303946fb985cb916c014979d8218c982513eb7ce2d", checked := Tryd.checked }
namespace Rows
def none {H : Type} : Left H := { results := [], args := [] }

/- WHAT THE LISTED PACKAGE-LEVEL VARIABLES READ AS WHEN THE CALL BEGINS. Each datum BY PROGRAM (the guide's laid-datum.mjs) off the statement by which the dump's own 'gosem.cut.vars' lays the variable. In a bare row this is a premise. The card (YtmfdpjijpbgjbaaDoorCards.lean) ties it to the program's text. -/
def laid_paternoster_api_ErrEnd {H : Type} : DataW H := .iface "*errors.errorString" (.ptr (.agg [.lit (.string [105, 116, 32, 101, 110, 100, 115, 32, 116, 111, 111, 32, 101, 97, 114, 108, 121])]))
def laid_paternoster_api_ErrShape {H : Type} : DataW H := .iface "*errors.errorString" (.ptr (.agg [.lit (.string [110, 111, 116, 32, 97, 115, 32, 105, 116, 32, 104, 97, 115, 32, 116, 111, 32, 98, 101])]))
def laid_paternoster_api_ErrRange {H : Type} : DataW H := .iface "*errors.errorString" (.ptr (.agg [.lit (.string [97, 32, 110, 117, 109, 98, 101, 114, 32, 111, 117, 116, 32, 111, 102, 32, 105, 116, 115, 32, 114, 97, 110, 103, 101])]))
def laid_paternoster_api_ErrMany {H : Type} : DataW H := .iface "*errors.errorString" (.ptr (.agg [.lit (.string [116, 111, 111, 32, 109, 97, 110, 121])]))
def laid_paternoster_api_ErrPower {H : Type} : DataW H := .iface "*errors.errorString" (.ptr (.agg [.lit (.string [116, 104, 101, 32, 112, 111, 119, 101, 114, 32, 105, 115, 32, 103, 111, 110, 101])]))
def laid_paternoster_api_ErrNone {H : Type} : DataW H := .iface "*errors.errorString" (.ptr (.agg [.lit (.string [116, 104, 101, 114, 101, 32, 105, 115, 32, 110, 111, 110, 101])]))
def laid_paternoster_api_ErrKind {H : Type} : DataW H := .iface "*errors.errorString" (.ptr (.agg [.lit (.string [110, 111, 116, 32, 111, 102, 32, 116, 104, 97, 116, 32, 107, 105, 110, 100])]))
def laid_paternoster_api_ErrOrder {H : Type} : DataW H := .iface "*errors.errorString" (.ptr (.agg [.lit (.string [110, 111, 116, 32, 105, 110, 32, 116, 104, 97, 116, 32, 111, 114, 100, 101, 114])]))
def laid_paternoster_api_ErrDoor {H : Type} : DataW H := .iface "*errors.errorString" (.ptr (.agg [.lit (.string [110, 111, 116, 32, 119, 105, 116, 104, 32, 116, 104, 101, 32, 100, 111, 111, 114, 32, 115, 111])]))
def laid_paternoster_api_ErrFloor {H : Type} : DataW H := .iface "*errors.errorString" (.ptr (.agg [.lit (.string [110, 111, 116, 32, 97, 116, 32, 116, 104, 97, 116, 32, 102, 108, 111, 111, 114])]))
def laid_paternoster_api_ErrTwice {H : Type} : DataW H := .iface "*errors.errorString" (.ptr (.agg [.lit (.string [116, 104, 101, 114, 101, 32, 105, 115, 32, 111, 110, 101])]))
def laid_paternoster_api_ErrWord {H : Type} : DataW H := .iface "*errors.errorString" (.ptr (.agg [.lit (.string [110, 111, 32, 115, 117, 99, 104, 32, 119, 111, 114, 100])]))
def laid_paternoster_api_ErrNumber {H : Type} : DataW H := .iface "*errors.errorString" (.ptr (.agg [.lit (.string [110, 111, 116, 32, 97, 32, 110, 117, 109, 98, 101, 114])]))

/-- 'paternosterlaw2.CellArms': WHATEVER THE INPUT: true; the input reads as it did. -/
def cellArmsSpec : ChangeSpec := { name := "cellArms", fn := fun _ => fun
  | [d1, d2] => { results := [.lit (.bool true)], args := [d1, d2] }
  | _ => none }
def cellArmsRow : OpenClaim := { program := "ytmfdpjijpbgjbaadoor", sum := "9a184287ed4b3f32cb964d303946fb985cb916c014979d8218c982513eb7ce2d", func := "paternoster/paternosterlaw2.CellArms", spec := "cellArms", named := ["paternoster/api.ErrRange", "paternoster/api.ErrPower", "paternoster/api.ErrNone", "paternoster/api.ErrEnd", "paternoster/api.ErrShape", "paternoster/api.ErrMany", "paternoster/api.ErrKind", "paternoster/api.ErrOrder", "paternoster/api.ErrDoor", "paternoster/api.ErrFloor", "paternoster/api.ErrTwice", "paternoster/api.ErrWord", "paternoster/api.ErrNumber"], apart := false, laid := [("paternoster/api.ErrEnd", laid_paternoster_api_ErrEnd), ("paternoster/api.ErrShape", laid_paternoster_api_ErrShape), ("paternoster/api.ErrRange", laid_paternoster_api_ErrRange), ("paternoster/api.ErrMany", laid_paternoster_api_ErrMany), ("paternoster/api.ErrPower", laid_paternoster_api_ErrPower), ("paternoster/api.ErrNone", laid_paternoster_api_ErrNone), ("paternoster/api.ErrKind", laid_paternoster_api_ErrKind), ("paternoster/api.ErrOrder", laid_paternoster_api_ErrOrder), ("paternoster/api.ErrDoor", laid_paternoster_api_ErrDoor), ("paternoster/api.ErrFloor", laid_paternoster_api_ErrFloor), ("paternoster/api.ErrTwice", laid_paternoster_api_ErrTwice), ("paternoster/api.ErrWord", laid_paternoster_api_ErrWord), ("paternoster/api.ErrNumber", laid_paternoster_api_ErrNumber)] }
def CellArmsSaid : Prop := cellArmsRow.holds Tryd.pinned (OpenSpec.ofChange cellArmsSpec)

/-- ITS FALSE NEIGHBOUR: 'it returns false'. Refute it at one input. -/
def cellArmsWrong : ChangeSpec := { name := "cellArms", fn := fun _ => fun
  | [d1, d2] => { results := [.lit (.bool false)], args := [d1, d2] }
  | _ => none }
def CellArmsWrongFalsely : Prop := cellArmsRow.holds Tryd.pinned (OpenSpec.ofChange cellArmsWrong)

/-- 'paternosterlaw2.CellTwins': WHATEVER THE INPUT: true; the input reads as it did. -/
def cellTwinsSpec : ChangeSpec := { name := "cellTwins", fn := fun _ => fun
  | [d1, d2] => { results := [.lit (.bool true)], args := [d1, d2] }
  | _ => none }
def cellTwinsRow : OpenClaim := { program := "ytmfdpjijpbgjbaadoor", sum := "9a184287ed4b3f32cb964d303946fb985cb916c014979d8218c982513eb7ce2d", func := "paternoster/paternosterlaw2.CellTwins", spec := "cellTwins", named := ["paternoster/api.ErrRange", "paternoster/api.ErrPower", "paternoster/api.ErrNone", "paternoster/api.ErrEnd", "paternoster/api.ErrShape", "paternoster/api.ErrMany", "paternoster/api.ErrKind", "paternoster/api.ErrOrder", "paternoster/api.ErrDoor", "paternoster/api.ErrFloor", "paternoster/api.ErrTwice", "paternoster/api.ErrWord", "paternoster/api.ErrNumber"], apart := false, laid := [("paternoster/api.ErrEnd", laid_paternoster_api_ErrEnd), ("paternoster/api.ErrShape", laid_paternoster_api_ErrShape), ("paternoster/api.ErrRange", laid_paternoster_api_ErrRange), ("paternoster/api.ErrMany", laid_paternoster_api_ErrMany), ("paternoster/api.ErrPower", laid_paternoster_api_ErrPower), ("paternoster/api.ErrNone", laid_paternoster_api_ErrNone), ("paternoster/api.ErrKind", laid_paternoster_api_ErrKind), ("paternoster/api.ErrOrder", laid_paternoster_api_ErrOrder), ("paternoster/api.ErrDoor", laid_paternoster_api_ErrDoor), ("paternoster/api.ErrFloor", laid_paternoster_api_ErrFloor), ("paternoster/api.ErrTwice", laid_paternoster_api_ErrTwice), ("paternoster/api.ErrWord", laid_paternoster_api_ErrWord), ("paternoster/api.ErrNumber", laid_paternoster_api_ErrNumber)] }
def CellTwinsSaid : Prop := cellTwinsRow.holds Tryd.pinned (OpenSpec.ofChange cellTwinsSpec)

/-- ITS FALSE NEIGHBOUR: 'it returns false'. Refute it at one input. -/
def cellTwinsWrong : ChangeSpec := { name := "cellTwins", fn := fun _ => fun
  | [d1, d2] => { results := [.lit (.bool false)], args := [d1, d2] }
  | _ => none }
def CellTwinsWrongFalsely : Prop := cellTwinsRow.holds Tryd.pinned (OpenSpec.ofChange cellTwinsWrong)

/-- 'paternosterlaw2.CellPlays': WHATEVER THE INPUT: true; the input reads as it did. -/
def cellPlaysSpec : ChangeSpec := { name := "cellPlays", fn := fun _ => fun
  | [d1, d2] => { results := [.lit (.bool true)], args := [d1, d2] }
  | _ => none }
def cellPlaysRow : OpenClaim := { program := "ytmfdpjijpbgjbaadoor", sum := "9a184287ed4b3f32cb964d303946fb985cb916c014979d8218c982513eb7ce2d", func := "paternoster/paternosterlaw2.CellPlays", spec := "cellPlays", named := ["paternoster/api.ErrRange", "paternoster/api.ErrPower", "paternoster/api.ErrNone", "paternoster/api.ErrEnd", "paternoster/api.ErrShape", "paternoster/api.ErrMany", "paternoster/api.ErrKind", "paternoster/api.ErrOrder", "paternoster/api.ErrDoor", "paternoster/api.ErrFloor", "paternoster/api.ErrTwice", "paternoster/api.ErrWord", "paternoster/api.ErrNumber"], apart := false, laid := [("paternoster/api.ErrEnd", laid_paternoster_api_ErrEnd), ("paternoster/api.ErrShape", laid_paternoster_api_ErrShape), ("paternoster/api.ErrRange", laid_paternoster_api_ErrRange), ("paternoster/api.ErrMany", laid_paternoster_api_ErrMany), ("paternoster/api.ErrPower", laid_paternoster_api_ErrPower), ("paternoster/api.ErrNone", laid_paternoster_api_ErrNone), ("paternoster/api.ErrKind", laid_paternoster_api_ErrKind), ("paternoster/api.ErrOrder", laid_paternoster_api_ErrOrder), ("paternoster/api.ErrDoor", laid_paternoster_api_ErrDoor), ("paternoster/api.ErrFloor", laid_paternoster_api_ErrFloor), ("paternoster/api.ErrTwice", laid_paternoster_api_ErrTwice), ("paternoster/api.ErrWord", laid_paternoster_api_ErrWord), ("paternoster/api.ErrNumber", laid_paternoster_api_ErrNumber)] }
def CellPlaysSaid : Prop := cellPlaysRow.holds Tryd.pinned (OpenSpec.ofChange cellPlaysSpec)

/-- ITS FALSE NEIGHBOUR: 'it returns false'. Refute it at one input. -/
def cellPlaysWrong : ChangeSpec := { name := "cellPlays", fn := fun _ => fun
  | [d1, d2] => { results := [.lit (.bool false)], args := [d1, d2] }
  | _ => none }
def CellPlaysWrongFalsely : Prop := cellPlaysRow.holds Tryd.pinned (OpenSpec.ofChange cellPlaysWrong)

/-- 'paternosterlaw3.StorePlays': WHATEVER THE INPUT: true; the input reads as it did. -/
def storePlaysSpec : ChangeSpec := { name := "storePlays", fn := fun _ => fun
  | [d1, d2] => { results := [.lit (.bool true)], args := [d1, d2] }
  | _ => none }
def storePlaysRow : OpenClaim := { program := "ytmfdpjijpbgjbaadoor", sum := "9a184287ed4b3f32cb964d303946fb985cb916c014979d8218c982513eb7ce2d", func := "paternoster/paternosterlaw3.StorePlays", spec := "storePlays", named := ["paternoster/api.ErrRange", "paternoster/api.ErrPower", "paternoster/api.ErrNone", "paternoster/api.ErrOrder", "paternoster/api.ErrEnd", "paternoster/api.ErrShape", "paternoster/api.ErrMany", "paternoster/api.ErrKind", "paternoster/api.ErrDoor", "paternoster/api.ErrFloor", "paternoster/api.ErrTwice", "paternoster/api.ErrWord", "paternoster/api.ErrNumber"], apart := false, laid := [("paternoster/api.ErrEnd", laid_paternoster_api_ErrEnd), ("paternoster/api.ErrShape", laid_paternoster_api_ErrShape), ("paternoster/api.ErrRange", laid_paternoster_api_ErrRange), ("paternoster/api.ErrMany", laid_paternoster_api_ErrMany), ("paternoster/api.ErrPower", laid_paternoster_api_ErrPower), ("paternoster/api.ErrNone", laid_paternoster_api_ErrNone), ("paternoster/api.ErrKind", laid_paternoster_api_ErrKind), ("paternoster/api.ErrOrder", laid_paternoster_api_ErrOrder), ("paternoster/api.ErrDoor", laid_paternoster_api_ErrDoor), ("paternoster/api.ErrFloor", laid_paternoster_api_ErrFloor), ("paternoster/api.ErrTwice", laid_paternoster_api_ErrTwice), ("paternoster/api.ErrWord", laid_paternoster_api_ErrWord), ("paternoster/api.ErrNumber", laid_paternoster_api_ErrNumber)] }
def StorePlaysSaid : Prop := storePlaysRow.holds Tryd.pinned (OpenSpec.ofChange storePlaysSpec)

/-- ITS FALSE NEIGHBOUR: 'it returns false'. Refute it at one input. -/
def storePlaysWrong : ChangeSpec := { name := "storePlays", fn := fun _ => fun
  | [d1, d2] => { results := [.lit (.bool false)], args := [d1, d2] }
  | _ => none }
def StorePlaysWrongFalsely : Prop := storePlaysRow.holds Tryd.pinned (OpenSpec.ofChange storePlaysWrong)

/-- 'paternosterlaw3.StoreFalls': WHATEVER THE INPUT: true; the input reads as it did. -/
def storeFallsSpec : ChangeSpec := { name := "storeFalls", fn := fun _ => fun
  | [d1, d2, d3, d4] => { results := [.lit (.bool true)], args := [d1, d2, d3, d4] }
  | _ => none }
def storeFallsRow : OpenClaim := { program := "ytmfdpjijpbgjbaadoor", sum := "9a184287ed4b3f32cb964d303946fb985cb916c014979d8218c982513eb7ce2d", func := "paternoster/paternosterlaw3.StoreFalls", spec := "storeFalls", named := ["paternoster/api.ErrRange", "paternoster/api.ErrPower", "paternoster/api.ErrNone", "paternoster/api.ErrOrder"], apart := false, laid := [("paternoster/api.ErrRange", laid_paternoster_api_ErrRange), ("paternoster/api.ErrPower", laid_paternoster_api_ErrPower), ("paternoster/api.ErrNone", laid_paternoster_api_ErrNone), ("paternoster/api.ErrOrder", laid_paternoster_api_ErrOrder)] }
def StoreFallsSaid : Prop := storeFallsRow.holds Tryd.pinned (OpenSpec.ofChange storeFallsSpec)

/-- ITS FALSE NEIGHBOUR: 'it returns false'. Refute it at one input. -/
def storeFallsWrong : ChangeSpec := { name := "storeFalls", fn := fun _ => fun
  | [d1, d2, d3, d4] => { results := [.lit (.bool false)], args := [d1, d2, d3, d4] }
  | _ => none }
def StoreFallsWrongFalsely : Prop := storeFallsRow.holds Tryd.pinned (OpenSpec.ofChange storeFallsWrong)

/-- 'paternosterlaw3.StoreSmall': WHATEVER THE INPUT: true; the input reads as it did. -/
def storeSmallSpec : ChangeSpec := { name := "storeSmall", fn := fun _ => fun
  | [d1, d2, d3] => { results := [.lit (.bool true)], args := [d1, d2, d3] }
  | _ => none }
def storeSmallRow : OpenClaim := { program := "ytmfdpjijpbgjbaadoor", sum := "9a184287ed4b3f32cb964d303946fb985cb916c014979d8218c982513eb7ce2d", func := "paternoster/paternosterlaw3.StoreSmall", spec := "storeSmall", named := ["paternoster/api.ErrRange", "paternoster/api.ErrPower", "paternoster/api.ErrNone", "paternoster/api.ErrOrder", "paternoster/api.ErrEnd", "paternoster/api.ErrShape", "paternoster/api.ErrMany", "paternoster/api.ErrKind", "paternoster/api.ErrDoor", "paternoster/api.ErrFloor", "paternoster/api.ErrTwice", "paternoster/api.ErrWord", "paternoster/api.ErrNumber"], apart := false, laid := [("paternoster/api.ErrEnd", laid_paternoster_api_ErrEnd), ("paternoster/api.ErrShape", laid_paternoster_api_ErrShape), ("paternoster/api.ErrRange", laid_paternoster_api_ErrRange), ("paternoster/api.ErrMany", laid_paternoster_api_ErrMany), ("paternoster/api.ErrPower", laid_paternoster_api_ErrPower), ("paternoster/api.ErrNone", laid_paternoster_api_ErrNone), ("paternoster/api.ErrKind", laid_paternoster_api_ErrKind), ("paternoster/api.ErrOrder", laid_paternoster_api_ErrOrder), ("paternoster/api.ErrDoor", laid_paternoster_api_ErrDoor), ("paternoster/api.ErrFloor", laid_paternoster_api_ErrFloor), ("paternoster/api.ErrTwice", laid_paternoster_api_ErrTwice), ("paternoster/api.ErrWord", laid_paternoster_api_ErrWord), ("paternoster/api.ErrNumber", laid_paternoster_api_ErrNumber)] }
def StoreSmallSaid : Prop := storeSmallRow.holds Tryd.pinned (OpenSpec.ofChange storeSmallSpec)

/-- ITS FALSE NEIGHBOUR: 'it returns false'. Refute it at one input. -/
def storeSmallWrong : ChangeSpec := { name := "storeSmall", fn := fun _ => fun
  | [d1, d2, d3] => { results := [.lit (.bool false)], args := [d1, d2, d3] }
  | _ => none }
def StoreSmallWrongFalsely : Prop := storeSmallRow.holds Tryd.pinned (OpenSpec.ofChange storeSmallWrong)

/-- 'paternosterlaw3.StoreTurns': WHATEVER THE INPUT: true; the input reads as it did. -/
def storeTurnsSpec : ChangeSpec := { name := "storeTurns", fn := fun _ => fun
  | [d1, d2] => { results := [.lit (.bool true)], args := [d1, d2] }
  | _ => none }
def storeTurnsRow : OpenClaim := { program := "ytmfdpjijpbgjbaadoor", sum := "9a184287ed4b3f32cb964d303946fb985cb916c014979d8218c982513eb7ce2d", func := "paternoster/paternosterlaw3.StoreTurns", spec := "storeTurns", named := ["paternoster/api.ErrRange", "paternoster/api.ErrPower", "paternoster/api.ErrNone", "paternoster/api.ErrOrder"], apart := false, laid := [("paternoster/api.ErrRange", laid_paternoster_api_ErrRange), ("paternoster/api.ErrPower", laid_paternoster_api_ErrPower), ("paternoster/api.ErrNone", laid_paternoster_api_ErrNone), ("paternoster/api.ErrOrder", laid_paternoster_api_ErrOrder)] }
def StoreTurnsSaid : Prop := storeTurnsRow.holds Tryd.pinned (OpenSpec.ofChange storeTurnsSpec)

/-- ITS FALSE NEIGHBOUR: 'it returns false'. Refute it at one input. -/
def storeTurnsWrong : ChangeSpec := { name := "storeTurns", fn := fun _ => fun
  | [d1, d2] => { results := [.lit (.bool false)], args := [d1, d2] }
  | _ => none }
def StoreTurnsWrongFalsely : Prop := storeTurnsRow.holds Tryd.pinned (OpenSpec.ofChange storeTurnsWrong)

/-- 'paternosterlaw3.StoreRaw': WHATEVER THE INPUT: true; the input reads as it did. -/
def storeRawSpec : ChangeSpec := { name := "storeRaw", fn := fun _ => fun
  | [d1, d2] => { results := [.lit (.bool true)], args := [d1, d2] }
  | _ => none }
def storeRawRow : OpenClaim := { program := "ytmfdpjijpbgjbaadoor", sum := "9a184287ed4b3f32cb964d303946fb985cb916c014979d8218c982513eb7ce2d", func := "paternoster/paternosterlaw3.StoreRaw", spec := "storeRaw", named := ["paternoster/api.ErrRange", "paternoster/api.ErrPower", "paternoster/api.ErrNone", "paternoster/api.ErrOrder"], apart := false, laid := [("paternoster/api.ErrRange", laid_paternoster_api_ErrRange), ("paternoster/api.ErrPower", laid_paternoster_api_ErrPower), ("paternoster/api.ErrNone", laid_paternoster_api_ErrNone), ("paternoster/api.ErrOrder", laid_paternoster_api_ErrOrder)] }
def StoreRawSaid : Prop := storeRawRow.holds Tryd.pinned (OpenSpec.ofChange storeRawSpec)

/-- ITS FALSE NEIGHBOUR: 'it returns false'. Refute it at one input. -/
def storeRawWrong : ChangeSpec := { name := "storeRaw", fn := fun _ => fun
  | [d1, d2] => { results := [.lit (.bool false)], args := [d1, d2] }
  | _ => none }
def StoreRawWrongFalsely : Prop := storeRawRow.holds Tryd.pinned (OpenSpec.ofChange storeRawWrong)

/-- 'paternosterlaw3.StoreTears': WHATEVER THE INPUT: true; the input reads as it did. -/
def storeTearsSpec : ChangeSpec := { name := "storeTears", fn := fun _ => fun
  | [d1, d2] => { results := [.lit (.bool true)], args := [d1, d2] }
  | _ => none }
def storeTearsRow : OpenClaim := { program := "ytmfdpjijpbgjbaadoor", sum := "9a184287ed4b3f32cb964d303946fb985cb916c014979d8218c982513eb7ce2d", func := "paternoster/paternosterlaw3.StoreTears", spec := "storeTears", named := ["paternoster/api.ErrRange", "paternoster/api.ErrPower", "paternoster/api.ErrNone", "paternoster/api.ErrOrder", "paternoster/api.ErrEnd", "paternoster/api.ErrShape", "paternoster/api.ErrMany", "paternoster/api.ErrKind", "paternoster/api.ErrDoor", "paternoster/api.ErrFloor", "paternoster/api.ErrTwice", "paternoster/api.ErrWord", "paternoster/api.ErrNumber"], apart := false, laid := [("paternoster/api.ErrEnd", laid_paternoster_api_ErrEnd), ("paternoster/api.ErrShape", laid_paternoster_api_ErrShape), ("paternoster/api.ErrRange", laid_paternoster_api_ErrRange), ("paternoster/api.ErrMany", laid_paternoster_api_ErrMany), ("paternoster/api.ErrPower", laid_paternoster_api_ErrPower), ("paternoster/api.ErrNone", laid_paternoster_api_ErrNone), ("paternoster/api.ErrKind", laid_paternoster_api_ErrKind), ("paternoster/api.ErrOrder", laid_paternoster_api_ErrOrder), ("paternoster/api.ErrDoor", laid_paternoster_api_ErrDoor), ("paternoster/api.ErrFloor", laid_paternoster_api_ErrFloor), ("paternoster/api.ErrTwice", laid_paternoster_api_ErrTwice), ("paternoster/api.ErrWord", laid_paternoster_api_ErrWord), ("paternoster/api.ErrNumber", laid_paternoster_api_ErrNumber)] }
def StoreTearsSaid : Prop := storeTearsRow.holds Tryd.pinned (OpenSpec.ofChange storeTearsSpec)

/-- ITS FALSE NEIGHBOUR: 'it returns false'. Refute it at one input. -/
def storeTearsWrong : ChangeSpec := { name := "storeTears", fn := fun _ => fun
  | [d1, d2] => { results := [.lit (.bool false)], args := [d1, d2] }
  | _ => none }
def StoreTearsWrongFalsely : Prop := storeTearsRow.holds Tryd.pinned (OpenSpec.ofChange storeTearsWrong)

/- THE SECOND FORM. 'bulk': how many values and letters a reading holds, each counted each time it is reached (what is shared counts as often as it is met; a slice's spare places count too). A statement '..UptoSaid' is the law's where the arguments, and the package variables that the reading takes, are together of bulk at most 1048576: NARROWER than '..Said'. Prove '..Said' where nothing that the law and all that it calls make is longer than what came in: it says more and counts as full. Else prove '..UptoSaid'. A law counts once. -/
mutual
def uptoBulk {H : Type} : DataW H → Nat
  | .lit (.string bytes) => bytes.length + 1
  | .lit _ => 1
  | .nil => 1
  | .ptr d => uptoBulk d + 1
  | .slice elems spare => uptoBulkAll elems + uptoBulkAll spare + 1
  | .agg parts => uptoBulkAll parts + 1
  | .iface _ d => uptoBulk d + 1
  | .map entries => uptoBulkEntries entries + 1
  | .held _ => 1
def uptoBulkAll {H : Type} : List (DataW H) → Nat
  | [] => 0
  | d :: r => uptoBulk d + uptoBulkAll r
def uptoBulkEntries {H : Type} : List (Lit × DataW H) → Nat
  | [] => 0
  | x :: r => uptoBulkEntry x + uptoBulkEntries r
def uptoBulkEntry {H : Type} : Lit × DataW H → Nat
  | (.string bytes, d) => bytes.length + uptoBulk d + 1
  | (_, d) => uptoBulk d + 1
 end
def uptoSmall : (H : Type) → List (DataW H) → Bool := fun _ ds => decide (uptoBulkAll ds ≤ 1048576)
def OpenSpec.upto (s : _root_.Go.ChangeSpec) : _root_.Go.OpenSpec := { _root_.Go.OpenSpec.ofChange s with cond := some uptoSmall }

/-- 'paternosterlaw2.CellArms', WHERE WHAT IT READS IS OF BULK AT MOST 1048576: true; the input reads as it did. -/
def cellArmsUptoRow : OpenClaim := { program := "ytmfdpjijpbgjbaadoor", sum := "9a184287ed4b3f32cb964d303946fb985cb916c014979d8218c982513eb7ce2d", func := "paternoster/paternosterlaw2.CellArms", spec := "cellArms", named := ["paternoster/api.ErrRange", "paternoster/api.ErrPower", "paternoster/api.ErrNone", "paternoster/api.ErrEnd", "paternoster/api.ErrShape", "paternoster/api.ErrMany", "paternoster/api.ErrKind", "paternoster/api.ErrOrder", "paternoster/api.ErrDoor", "paternoster/api.ErrFloor", "paternoster/api.ErrTwice", "paternoster/api.ErrWord", "paternoster/api.ErrNumber"], apart := false, laid := [("paternoster/api.ErrEnd", laid_paternoster_api_ErrEnd), ("paternoster/api.ErrShape", laid_paternoster_api_ErrShape), ("paternoster/api.ErrRange", laid_paternoster_api_ErrRange), ("paternoster/api.ErrMany", laid_paternoster_api_ErrMany), ("paternoster/api.ErrPower", laid_paternoster_api_ErrPower), ("paternoster/api.ErrNone", laid_paternoster_api_ErrNone), ("paternoster/api.ErrKind", laid_paternoster_api_ErrKind), ("paternoster/api.ErrOrder", laid_paternoster_api_ErrOrder), ("paternoster/api.ErrDoor", laid_paternoster_api_ErrDoor), ("paternoster/api.ErrFloor", laid_paternoster_api_ErrFloor), ("paternoster/api.ErrTwice", laid_paternoster_api_ErrTwice), ("paternoster/api.ErrWord", laid_paternoster_api_ErrWord), ("paternoster/api.ErrNumber", laid_paternoster_api_ErrNumber)], narrowed := true }
def CellArmsUptoSaid : Prop := cellArmsUptoRow.holds Tryd.pinned (OpenSpec.upto cellArmsSpec)

/-- 'paternosterlaw2.CellTwins', WHERE WHAT IT READS IS OF BULK AT MOST 1048576: true; the input reads as it did. -/
def cellTwinsUptoRow : OpenClaim := { program := "ytmfdpjijpbgjbaadoor", sum := "9a184287ed4b3f32cb964d303946fb985cb916c014979d8218c982513eb7ce2d", func := "paternoster/paternosterlaw2.CellTwins", spec := "cellTwins", named := ["paternoster/api.ErrRange", "paternoster/api.ErrPower", "paternoster/api.ErrNone", "paternoster/api.ErrEnd", "paternoster/api.ErrShape", "paternoster/api.ErrMany", "paternoster/api.ErrKind", "paternoster/api.ErrOrder", "paternoster/api.ErrDoor", "paternoster/api.ErrFloor", "paternoster/api.ErrTwice", "paternoster/api.ErrWord", "paternoster/api.ErrNumber"], apart := false, laid := [("paternoster/api.ErrEnd", laid_paternoster_api_ErrEnd), ("paternoster/api.ErrShape", laid_paternoster_api_ErrShape), ("paternoster/api.ErrRange", laid_paternoster_api_ErrRange), ("paternoster/api.ErrMany", laid_paternoster_api_ErrMany), ("paternoster/api.ErrPower", laid_paternoster_api_ErrPower), ("paternoster/api.ErrNone", laid_paternoster_api_ErrNone), ("paternoster/api.ErrKind", laid_paternoster_api_ErrKind), ("paternoster/api.ErrOrder", laid_paternoster_api_ErrOrder), ("paternoster/api.ErrDoor", laid_paternoster_api_ErrDoor), ("paternoster/api.ErrFloor", laid_paternoster_api_ErrFloor), ("paternoster/api.ErrTwice", laid_paternoster_api_ErrTwice), ("paternoster/api.ErrWord", laid_paternoster_api_ErrWord), ("paternoster/api.ErrNumber", laid_paternoster_api_ErrNumber)], narrowed := true }
def CellTwinsUptoSaid : Prop := cellTwinsUptoRow.holds Tryd.pinned (OpenSpec.upto cellTwinsSpec)

/-- 'paternosterlaw2.CellPlays', WHERE WHAT IT READS IS OF BULK AT MOST 1048576: true; the input reads as it did. -/
def cellPlaysUptoRow : OpenClaim := { program := "ytmfdpjijpbgjbaadoor", sum := "9a184287ed4b3f32cb964d303946fb985cb916c014979d8218c982513eb7ce2d", func := "paternoster/paternosterlaw2.CellPlays", spec := "cellPlays", named := ["paternoster/api.ErrRange", "paternoster/api.ErrPower", "paternoster/api.ErrNone", "paternoster/api.ErrEnd", "paternoster/api.ErrShape", "paternoster/api.ErrMany", "paternoster/api.ErrKind", "paternoster/api.ErrOrder", "paternoster/api.ErrDoor", "paternoster/api.ErrFloor", "paternoster/api.ErrTwice", "paternoster/api.ErrWord", "paternoster/api.ErrNumber"], apart := false, laid := [("paternoster/api.ErrEnd", laid_paternoster_api_ErrEnd), ("paternoster/api.ErrShape", laid_paternoster_api_ErrShape), ("paternoster/api.ErrRange", laid_paternoster_api_ErrRange), ("paternoster/api.ErrMany", laid_paternoster_api_ErrMany), ("paternoster/api.ErrPower", laid_paternoster_api_ErrPower), ("paternoster/api.ErrNone", laid_paternoster_api_ErrNone), ("paternoster/api.ErrKind", laid_paternoster_api_ErrKind), ("paternoster/api.ErrOrder", laid_paternoster_api_ErrOrder), ("paternoster/api.ErrDoor", laid_paternoster_api_ErrDoor), ("paternoster/api.ErrFloor", laid_paternoster_api_ErrFloor), ("paternoster/api.ErrTwice", laid_paternoster_api_ErrTwice), ("paternoster/api.ErrWord", laid_paternoster_api_ErrWord), ("paternoster/api.ErrNumber", laid_paternoster_api_ErrNumber)], narrowed := true }
def CellPlaysUptoSaid : Prop := cellPlaysUptoRow.holds Tryd.pinned (OpenSpec.upto cellPlaysSpec)

/-- 'paternosterlaw3.StorePlays', WHERE WHAT IT READS IS OF BULK AT MOST 1048576: true; the input reads as it did. -/
def storePlaysUptoRow : OpenClaim := { program := "ytmfdpjijpbgjbaadoor", sum := "9a184287ed4b3f32cb964d303946fb985cb916c014979d8218c982513eb7ce2d", func := "paternoster/paternosterlaw3.StorePlays", spec := "storePlays", named := ["paternoster/api.ErrRange", "paternoster/api.ErrPower", "paternoster/api.ErrNone", "paternoster/api.ErrOrder", "paternoster/api.ErrEnd", "paternoster/api.ErrShape", "paternoster/api.ErrMany", "paternoster/api.ErrKind", "paternoster/api.ErrDoor", "paternoster/api.ErrFloor", "paternoster/api.ErrTwice", "paternoster/api.ErrWord", "paternoster/api.ErrNumber"], apart := false, laid := [("paternoster/api.ErrEnd", laid_paternoster_api_ErrEnd), ("paternoster/api.ErrShape", laid_paternoster_api_ErrShape), ("paternoster/api.ErrRange", laid_paternoster_api_ErrRange), ("paternoster/api.ErrMany", laid_paternoster_api_ErrMany), ("paternoster/api.ErrPower", laid_paternoster_api_ErrPower), ("paternoster/api.ErrNone", laid_paternoster_api_ErrNone), ("paternoster/api.ErrKind", laid_paternoster_api_ErrKind), ("paternoster/api.ErrOrder", laid_paternoster_api_ErrOrder), ("paternoster/api.ErrDoor", laid_paternoster_api_ErrDoor), ("paternoster/api.ErrFloor", laid_paternoster_api_ErrFloor), ("paternoster/api.ErrTwice", laid_paternoster_api_ErrTwice), ("paternoster/api.ErrWord", laid_paternoster_api_ErrWord), ("paternoster/api.ErrNumber", laid_paternoster_api_ErrNumber)], narrowed := true }
def StorePlaysUptoSaid : Prop := storePlaysUptoRow.holds Tryd.pinned (OpenSpec.upto storePlaysSpec)

/-- 'paternosterlaw3.StoreFalls', WHERE WHAT IT READS IS OF BULK AT MOST 1048576: true; the input reads as it did. -/
def storeFallsUptoRow : OpenClaim := { program := "ytmfdpjijpbgjbaadoor", sum := "9a184287ed4b3f32cb964d303946fb985cb916c014979d8218c982513eb7ce2d", func := "paternoster/paternosterlaw3.StoreFalls", spec := "storeFalls", named := ["paternoster/api.ErrRange", "paternoster/api.ErrPower", "paternoster/api.ErrNone", "paternoster/api.ErrOrder"], apart := false, laid := [("paternoster/api.ErrRange", laid_paternoster_api_ErrRange), ("paternoster/api.ErrPower", laid_paternoster_api_ErrPower), ("paternoster/api.ErrNone", laid_paternoster_api_ErrNone), ("paternoster/api.ErrOrder", laid_paternoster_api_ErrOrder)], narrowed := true }
def StoreFallsUptoSaid : Prop := storeFallsUptoRow.holds Tryd.pinned (OpenSpec.upto storeFallsSpec)

/-- 'paternosterlaw3.StoreSmall', WHERE WHAT IT READS IS OF BULK AT MOST 1048576: true; the input reads as it did. -/
def storeSmallUptoRow : OpenClaim := { program := "ytmfdpjijpbgjbaadoor", sum := "9a184287ed4b3f32cb964d303946fb985cb916c014979d8218c982513eb7ce2d", func := "paternoster/paternosterlaw3.StoreSmall", spec := "storeSmall", named := ["paternoster/api.ErrRange", "paternoster/api.ErrPower", "paternoster/api.ErrNone", "paternoster/api.ErrOrder", "paternoster/api.ErrEnd", "paternoster/api.ErrShape", "paternoster/api.ErrMany", "paternoster/api.ErrKind", "paternoster/api.ErrDoor", "paternoster/api.ErrFloor", "paternoster/api.ErrTwice", "paternoster/api.ErrWord", "paternoster/api.ErrNumber"], apart := false, laid := [("paternoster/api.ErrEnd", laid_paternoster_api_ErrEnd), ("paternoster/api.ErrShape", laid_paternoster_api_ErrShape), ("paternoster/api.ErrRange", laid_paternoster_api_ErrRange), ("paternoster/api.ErrMany", laid_paternoster_api_ErrMany), ("paternoster/api.ErrPower", laid_paternoster_api_ErrPower), ("paternoster/api.ErrNone", laid_paternoster_api_ErrNone), ("paternoster/api.ErrKind", laid_paternoster_api_ErrKind), ("paternoster/api.ErrOrder", laid_paternoster_api_ErrOrder), ("paternoster/api.ErrDoor", laid_paternoster_api_ErrDoor), ("paternoster/api.ErrFloor", laid_paternoster_api_ErrFloor), ("paternoster/api.ErrTwice", laid_paternoster_api_ErrTwice), ("paternoster/api.ErrWord", laid_paternoster_api_ErrWord), ("paternoster/api.ErrNumber", laid_paternoster_api_ErrNumber)], narrowed := true }
def StoreSmallUptoSaid : Prop := storeSmallUptoRow.holds Tryd.pinned (OpenSpec.upto storeSmallSpec)

/-- 'paternosterlaw3.StoreTurns', WHERE WHAT IT READS IS OF BULK AT MOST 1048576: true; the input reads as it did. -/
def storeTurnsUptoRow : OpenClaim := { program := "ytmfdpjijpbgjbaadoor", sum := "9a184287ed4b3f32cb964d303946fb985cb916c014979d8218c982513eb7ce2d", func := "paternoster/paternosterlaw3.StoreTurns", spec := "storeTurns", named := ["paternoster/api.ErrRange", "paternoster/api.ErrPower", "paternoster/api.ErrNone", "paternoster/api.ErrOrder"], apart := false, laid := [("paternoster/api.ErrRange", laid_paternoster_api_ErrRange), ("paternoster/api.ErrPower", laid_paternoster_api_ErrPower), ("paternoster/api.ErrNone", laid_paternoster_api_ErrNone), ("paternoster/api.ErrOrder", laid_paternoster_api_ErrOrder)], narrowed := true }
def StoreTurnsUptoSaid : Prop := storeTurnsUptoRow.holds Tryd.pinned (OpenSpec.upto storeTurnsSpec)

/-- 'paternosterlaw3.StoreRaw', WHERE WHAT IT READS IS OF BULK AT MOST 1048576: true; the input reads as it did. -/
def storeRawUptoRow : OpenClaim := { program := "ytmfdpjijpbgjbaadoor", sum := "9a184287ed4b3f32cb964d303946fb985cb916c014979d8218c982513eb7ce2d", func := "paternoster/paternosterlaw3.StoreRaw", spec := "storeRaw", named := ["paternoster/api.ErrRange", "paternoster/api.ErrPower", "paternoster/api.ErrNone", "paternoster/api.ErrOrder"], apart := false, laid := [("paternoster/api.ErrRange", laid_paternoster_api_ErrRange), ("paternoster/api.ErrPower", laid_paternoster_api_ErrPower), ("paternoster/api.ErrNone", laid_paternoster_api_ErrNone), ("paternoster/api.ErrOrder", laid_paternoster_api_ErrOrder)], narrowed := true }
def StoreRawUptoSaid : Prop := storeRawUptoRow.holds Tryd.pinned (OpenSpec.upto storeRawSpec)

/-- 'paternosterlaw3.StoreTears', WHERE WHAT IT READS IS OF BULK AT MOST 1048576: true; the input reads as it did. -/
def storeTearsUptoRow : OpenClaim := { program := "ytmfdpjijpbgjbaadoor", sum := "9a184287ed4b3f32cb964d303946fb985cb916c014979d8218c982513eb7ce2d", func := "paternoster/paternosterlaw3.StoreTears", spec := "storeTears", named := ["paternoster/api.ErrRange", "paternoster/api.ErrPower", "paternoster/api.ErrNone", "paternoster/api.ErrOrder", "paternoster/api.ErrEnd", "paternoster/api.ErrShape", "paternoster/api.ErrMany", "paternoster/api.ErrKind", "paternoster/api.ErrDoor", "paternoster/api.ErrFloor", "paternoster/api.ErrTwice", "paternoster/api.ErrWord", "paternoster/api.ErrNumber"], apart := false, laid := [("paternoster/api.ErrEnd", laid_paternoster_api_ErrEnd), ("paternoster/api.ErrShape", laid_paternoster_api_ErrShape), ("paternoster/api.ErrRange", laid_paternoster_api_ErrRange), ("paternoster/api.ErrMany", laid_paternoster_api_ErrMany), ("paternoster/api.ErrPower", laid_paternoster_api_ErrPower), ("paternoster/api.ErrNone", laid_paternoster_api_ErrNone), ("paternoster/api.ErrKind", laid_paternoster_api_ErrKind), ("paternoster/api.ErrOrder", laid_paternoster_api_ErrOrder), ("paternoster/api.ErrDoor", laid_paternoster_api_ErrDoor), ("paternoster/api.ErrFloor", laid_paternoster_api_ErrFloor), ("paternoster/api.ErrTwice", laid_paternoster_api_ErrTwice), ("paternoster/api.ErrWord", laid_paternoster_api_ErrWord), ("paternoster/api.ErrNumber", laid_paternoster_api_ErrNumber)], narrowed := true }
def StoreTearsUptoSaid : Prop := storeTearsUptoRow.holds Tryd.pinned (OpenSpec.upto storeTearsSpec)

end Rows
end Go.Proofs.YtmfdpjijpbgjbaaDoor
