/-
  NARROWER THAN 'FOR EVERY INPUT', by the rows' own cells (each row's printed sentence says how): WireForms: laid · WireTwins: laid · WirePuts: laid · WireRanges: laid · WireRows: laid · WireLengths: laid · FrameRings: laid · FrameOwn: laid · FrameBeats: laid · FrameBack: laid · FrameSays: laid.
  DERIVED. THE GIVEN ROWS OF THIS SEAT. 11 by the template 'for every input the law returns true; each argument reads behind the call as it read before'; 0 by the template 'total and deterministic' (their statements: YtogcbiooddodlaaDoorTotals.lean).
  GIVEN WITH THE SEED: the statements are not yours to turn. If you find one false, say at which input.
  Laid BY PROGRAM, IN A SANDBOX (cutbox-rows.mjs): the forced cells as the released guide's own fill.sh prints them over the translation 8fbe12af74af783f… (all of the seat's roots in one cut). By AI agents, Wed Nov 11 2026. No macro, syntax, notation, axiom, sorry.
-/
import Derived.Test.YtogcbiooddodlaaDoorChecked
import GoSem.Claim
import GoSem.ClaimJoined
import GoSem.ClaimMapViews
import Derived.JoinedTies
import Derived.KernelRfl
namespace Go.Proofs.YtogcbiooddodlaaDoor
/- THE CELL 'sum', in the pinned program and in every row, IS THE sha256 OF THE DUMP (.gsa) THAT YtogcbiooddodlaaDoorProg.lean LOADS. Nothing in Lean hashes anything: it is a label: what it is worth is what the hold of that sum in a sandbox is worth. -/
noncomputable def Tryd.pinned : Pinned := { name := "ytogcbiooddodlaadoor", sum := "8fbe12af74af783f4d86181db483d7632ce77032d2cb6a675736a1f2ab94fc8c", checked := Tryd.checked }
namespace Rows
def none {H : Type} : Left H := { results := [], args := [] }

/- WHAT THE LISTED PACKAGE-LEVEL VARIABLES READ AS WHEN THE CALL BEGINS. Each datum BY PROGRAM (the guide's laid-datum.mjs) off the statement by which the dump's own 'gosem.cut.vars' lays the variable. In a bare row this is a premise. The card (YtogcbiooddodlaaDoorCards.lean) ties it to the program's text. -/
def laid_paternoster_api_ErrEnd {H : Type} : DataW H := .iface "*errors.errorString" (.ptr (.agg [.lit (.string [105, 116, 32, 101, 110, 100, 115, 32, 116, 111, 111, 32, 101, 97, 114, 108, 121])]))
def laid_paternoster_api_ErrShape {H : Type} : DataW H := .iface "*errors.errorString" (.ptr (.agg [.lit (.string [110, 111, 116, 32, 97, 115, 32, 105, 116, 32, 104, 97, 115, 32, 116, 111, 32, 98, 101])]))
def laid_paternoster_api_ErrRange {H : Type} : DataW H := .iface "*errors.errorString" (.ptr (.agg [.lit (.string [97, 32, 110, 117, 109, 98, 101, 114, 32, 111, 117, 116, 32, 111, 102, 32, 105, 116, 115, 32, 114, 97, 110, 103, 101])]))
def laid_paternoster_api_ErrMany {H : Type} : DataW H := .iface "*errors.errorString" (.ptr (.agg [.lit (.string [116, 111, 111, 32, 109, 97, 110, 121])]))
def laid_paternoster_api_ErrPower {H : Type} : DataW H := .iface "*errors.errorString" (.ptr (.agg [.lit (.string [116, 104, 101, 32, 112, 111, 119, 101, 114, 32, 105, 115, 32, 103, 111, 110, 101])]))
def laid_paternoster_api_ErrNone {H : Type} : DataW H := .iface "*errors.errorString" (.ptr (.agg [.lit (.string [116, 104, 101, 114, 101, 32, 105, 115, 32, 110, 111, 110, 101])]))
def laid_paternoster_api_ErrKind {H : Type} : DataW H := .iface "*errors.errorString" (.ptr (.agg [.lit (.string [110, 111, 116, 32, 111, 102, 32, 116, 104, 97, 116, 32, 107, 105, 110, 100])]))
def laid_paternoster_api_ErrOrder {H : Type} : DataW H := .iface "*errors.errorString" (.ptr (.agg [.lit (.string [110, 111, 116, 32, 105, 110, 32, 116, 104, 97, 116, 32, 111, 114, 100, 101, 114])]))
def laid_paternoster_api_ErrDoor {H : Type} : DataW H := .iface "*errors.errorString" (.ptr (.agg [.lit (.string [110, 111, 116, 32, 119, 105, 116, 104, 32, 116, 104, 101, 32, 100, 111, 111, 114, 32, 115, 111])]))
def laid_paternoster_api_ErrFloor {H : Type} : DataW H := .iface "*errors.errorString" (.ptr (.agg [.lit (.string [110, 111, 116, 32, 97, 116, 32, 116, 104, 97, 116, 32, 102, 108, 111, 111, 114])]))
def laid_paternoster_api_ErrTwice {H : Type} : DataW H := .iface "*errors.errorString" (.ptr (.agg [.lit (.string [116, 104, 101, 114, 101, 32, 105, 115, 32, 111, 110, 101])]))
def laid_paternoster_api_ErrWord {H : Type} : DataW H := .iface "*errors.errorString" (.ptr (.agg [.lit (.string [110, 111, 32, 115, 117, 99, 104, 32, 119, 111, 114, 100])]))
def laid_paternoster_api_ErrNumber {H : Type} : DataW H := .iface "*errors.errorString" (.ptr (.agg [.lit (.string [110, 111, 116, 32, 97, 32, 110, 117, 109, 98, 101, 114])]))

/-- 'paternosterlaw1.WireForms': WHATEVER THE INPUT: true; the input reads as it did. -/
def wireFormsSpec : ChangeSpec := { name := "wireForms", fn := fun _ => fun
  | [d1, d2] => { results := [.lit (.bool true)], args := [d1, d2] }
  | _ => none }
def wireFormsRow : OpenClaim := { program := "ytogcbiooddodlaadoor", sum := "8fbe12af74af783f4d86181db483d7632ce77032d2cb6a675736a1f2ab94fc8c", func := "paternoster/paternosterlaw1.WireForms", spec := "wireForms", named := ["paternoster/api.ErrRange", "paternoster/api.ErrEnd", "paternoster/api.ErrShape", "paternoster/api.ErrMany", "paternoster/api.ErrPower", "paternoster/api.ErrNone", "paternoster/api.ErrKind", "paternoster/api.ErrOrder", "paternoster/api.ErrDoor", "paternoster/api.ErrFloor", "paternoster/api.ErrTwice", "paternoster/api.ErrWord", "paternoster/api.ErrNumber"], apart := false, laid := [("paternoster/api.ErrEnd", laid_paternoster_api_ErrEnd), ("paternoster/api.ErrShape", laid_paternoster_api_ErrShape), ("paternoster/api.ErrRange", laid_paternoster_api_ErrRange), ("paternoster/api.ErrMany", laid_paternoster_api_ErrMany), ("paternoster/api.ErrPower", laid_paternoster_api_ErrPower), ("paternoster/api.ErrNone", laid_paternoster_api_ErrNone), ("paternoster/api.ErrKind", laid_paternoster_api_ErrKind), ("paternoster/api.ErrOrder", laid_paternoster_api_ErrOrder), ("paternoster/api.ErrDoor", laid_paternoster_api_ErrDoor), ("paternoster/api.ErrFloor", laid_paternoster_api_ErrFloor), ("paternoster/api.ErrTwice", laid_paternoster_api_ErrTwice), ("paternoster/api.ErrWord", laid_paternoster_api_ErrWord), ("paternoster/api.ErrNumber", laid_paternoster_api_ErrNumber)] }
def WireFormsSaid : Prop := wireFormsRow.holds Tryd.pinned (OpenSpec.ofChange wireFormsSpec)

/-- ITS FALSE NEIGHBOUR: 'it returns false'. Refute it at one input. -/
def wireFormsWrong : ChangeSpec := { name := "wireForms", fn := fun _ => fun
  | [d1, d2] => { results := [.lit (.bool false)], args := [d1, d2] }
  | _ => none }
def WireFormsWrongFalsely : Prop := wireFormsRow.holds Tryd.pinned (OpenSpec.ofChange wireFormsWrong)

/-- 'paternosterlaw1.WireTwins': WHATEVER THE INPUT: true; the input reads as it did. -/
def wireTwinsSpec : ChangeSpec := { name := "wireTwins", fn := fun _ => fun
  | [d1, d2] => { results := [.lit (.bool true)], args := [d1, d2] }
  | _ => none }
def wireTwinsRow : OpenClaim := { program := "ytogcbiooddodlaadoor", sum := "8fbe12af74af783f4d86181db483d7632ce77032d2cb6a675736a1f2ab94fc8c", func := "paternoster/paternosterlaw1.WireTwins", spec := "wireTwins", named := ["paternoster/api.ErrRange", "paternoster/api.ErrEnd", "paternoster/api.ErrShape"], apart := false, laid := [("paternoster/api.ErrEnd", laid_paternoster_api_ErrEnd), ("paternoster/api.ErrShape", laid_paternoster_api_ErrShape), ("paternoster/api.ErrRange", laid_paternoster_api_ErrRange)] }
def WireTwinsSaid : Prop := wireTwinsRow.holds Tryd.pinned (OpenSpec.ofChange wireTwinsSpec)

/-- ITS FALSE NEIGHBOUR: 'it returns false'. Refute it at one input. -/
def wireTwinsWrong : ChangeSpec := { name := "wireTwins", fn := fun _ => fun
  | [d1, d2] => { results := [.lit (.bool false)], args := [d1, d2] }
  | _ => none }
def WireTwinsWrongFalsely : Prop := wireTwinsRow.holds Tryd.pinned (OpenSpec.ofChange wireTwinsWrong)

/-- 'paternosterlaw1.WirePuts': WHATEVER THE INPUT: true; the input reads as it did. -/
def wirePutsSpec : ChangeSpec := { name := "wirePuts", fn := fun _ => fun
  | [d1, d2, d3] => { results := [.lit (.bool true)], args := [d1, d2, d3] }
  | _ => none }
def wirePutsRow : OpenClaim := { program := "ytogcbiooddodlaadoor", sum := "8fbe12af74af783f4d86181db483d7632ce77032d2cb6a675736a1f2ab94fc8c", func := "paternoster/paternosterlaw1.WirePuts", spec := "wirePuts", named := ["paternoster/api.ErrRange", "paternoster/api.ErrEnd", "paternoster/api.ErrShape"], apart := false, laid := [("paternoster/api.ErrEnd", laid_paternoster_api_ErrEnd), ("paternoster/api.ErrShape", laid_paternoster_api_ErrShape), ("paternoster/api.ErrRange", laid_paternoster_api_ErrRange)] }
def WirePutsSaid : Prop := wirePutsRow.holds Tryd.pinned (OpenSpec.ofChange wirePutsSpec)

/-- ITS FALSE NEIGHBOUR: 'it returns false'. Refute it at one input. -/
def wirePutsWrong : ChangeSpec := { name := "wirePuts", fn := fun _ => fun
  | [d1, d2, d3] => { results := [.lit (.bool false)], args := [d1, d2, d3] }
  | _ => none }
def WirePutsWrongFalsely : Prop := wirePutsRow.holds Tryd.pinned (OpenSpec.ofChange wirePutsWrong)

/-- 'paternosterlaw1.WireRanges': WHATEVER THE INPUT: true; the input reads as it did. -/
def wireRangesSpec : ChangeSpec := { name := "wireRanges", fn := fun _ => fun
  | [d1, d2, d3, d4] => { results := [.lit (.bool true)], args := [d1, d2, d3, d4] }
  | _ => none }
def wireRangesRow : OpenClaim := { program := "ytogcbiooddodlaadoor", sum := "8fbe12af74af783f4d86181db483d7632ce77032d2cb6a675736a1f2ab94fc8c", func := "paternoster/paternosterlaw1.WireRanges", spec := "wireRanges", named := ["paternoster/api.ErrRange", "paternoster/api.ErrEnd", "paternoster/api.ErrShape", "paternoster/api.ErrMany", "paternoster/api.ErrPower", "paternoster/api.ErrNone", "paternoster/api.ErrKind", "paternoster/api.ErrOrder", "paternoster/api.ErrDoor", "paternoster/api.ErrFloor", "paternoster/api.ErrTwice", "paternoster/api.ErrWord", "paternoster/api.ErrNumber"], apart := false, laid := [("paternoster/api.ErrEnd", laid_paternoster_api_ErrEnd), ("paternoster/api.ErrShape", laid_paternoster_api_ErrShape), ("paternoster/api.ErrRange", laid_paternoster_api_ErrRange), ("paternoster/api.ErrMany", laid_paternoster_api_ErrMany), ("paternoster/api.ErrPower", laid_paternoster_api_ErrPower), ("paternoster/api.ErrNone", laid_paternoster_api_ErrNone), ("paternoster/api.ErrKind", laid_paternoster_api_ErrKind), ("paternoster/api.ErrOrder", laid_paternoster_api_ErrOrder), ("paternoster/api.ErrDoor", laid_paternoster_api_ErrDoor), ("paternoster/api.ErrFloor", laid_paternoster_api_ErrFloor), ("paternoster/api.ErrTwice", laid_paternoster_api_ErrTwice), ("paternoster/api.ErrWord", laid_paternoster_api_ErrWord), ("paternoster/api.ErrNumber", laid_paternoster_api_ErrNumber)] }
def WireRangesSaid : Prop := wireRangesRow.holds Tryd.pinned (OpenSpec.ofChange wireRangesSpec)

/-- ITS FALSE NEIGHBOUR: 'it returns false'. Refute it at one input. -/
def wireRangesWrong : ChangeSpec := { name := "wireRanges", fn := fun _ => fun
  | [d1, d2, d3, d4] => { results := [.lit (.bool false)], args := [d1, d2, d3, d4] }
  | _ => none }
def WireRangesWrongFalsely : Prop := wireRangesRow.holds Tryd.pinned (OpenSpec.ofChange wireRangesWrong)

/-- 'paternosterlaw1.WireRows': WHATEVER THE INPUT: true; the input reads as it did. -/
def wireRowsSpec : ChangeSpec := { name := "wireRows", fn := fun _ => fun
  | [d1, d2, d3] => { results := [.lit (.bool true)], args := [d1, d2, d3] }
  | _ => none }
def wireRowsRow : OpenClaim := { program := "ytogcbiooddodlaadoor", sum := "8fbe12af74af783f4d86181db483d7632ce77032d2cb6a675736a1f2ab94fc8c", func := "paternoster/paternosterlaw1.WireRows", spec := "wireRows", named := ["paternoster/api.ErrRange", "paternoster/api.ErrEnd", "paternoster/api.ErrShape", "paternoster/api.ErrMany", "paternoster/api.ErrPower", "paternoster/api.ErrNone", "paternoster/api.ErrKind", "paternoster/api.ErrOrder", "paternoster/api.ErrDoor", "paternoster/api.ErrFloor", "paternoster/api.ErrTwice", "paternoster/api.ErrWord", "paternoster/api.ErrNumber"], apart := false, laid := [("paternoster/api.ErrEnd", laid_paternoster_api_ErrEnd), ("paternoster/api.ErrShape", laid_paternoster_api_ErrShape), ("paternoster/api.ErrRange", laid_paternoster_api_ErrRange), ("paternoster/api.ErrMany", laid_paternoster_api_ErrMany), ("paternoster/api.ErrPower", laid_paternoster_api_ErrPower), ("paternoster/api.ErrNone", laid_paternoster_api_ErrNone), ("paternoster/api.ErrKind", laid_paternoster_api_ErrKind), ("paternoster/api.ErrOrder", laid_paternoster_api_ErrOrder), ("paternoster/api.ErrDoor", laid_paternoster_api_ErrDoor), ("paternoster/api.ErrFloor", laid_paternoster_api_ErrFloor), ("paternoster/api.ErrTwice", laid_paternoster_api_ErrTwice), ("paternoster/api.ErrWord", laid_paternoster_api_ErrWord), ("paternoster/api.ErrNumber", laid_paternoster_api_ErrNumber)] }
def WireRowsSaid : Prop := wireRowsRow.holds Tryd.pinned (OpenSpec.ofChange wireRowsSpec)

/-- ITS FALSE NEIGHBOUR: 'it returns false'. Refute it at one input. -/
def wireRowsWrong : ChangeSpec := { name := "wireRows", fn := fun _ => fun
  | [d1, d2, d3] => { results := [.lit (.bool false)], args := [d1, d2, d3] }
  | _ => none }
def WireRowsWrongFalsely : Prop := wireRowsRow.holds Tryd.pinned (OpenSpec.ofChange wireRowsWrong)

/-- 'paternosterlaw1.WireLengths': WHATEVER THE INPUT: true; the input reads as it did. -/
def wireLengthsSpec : ChangeSpec := { name := "wireLengths", fn := fun _ => fun
  | [d1, d2] => { results := [.lit (.bool true)], args := [d1, d2] }
  | _ => none }
def wireLengthsRow : OpenClaim := { program := "ytogcbiooddodlaadoor", sum := "8fbe12af74af783f4d86181db483d7632ce77032d2cb6a675736a1f2ab94fc8c", func := "paternoster/paternosterlaw1.WireLengths", spec := "wireLengths", named := ["paternoster/api.ErrRange", "paternoster/api.ErrEnd", "paternoster/api.ErrShape", "paternoster/api.ErrMany", "paternoster/api.ErrPower", "paternoster/api.ErrNone", "paternoster/api.ErrKind", "paternoster/api.ErrOrder", "paternoster/api.ErrDoor", "paternoster/api.ErrFloor", "paternoster/api.ErrTwice", "paternoster/api.ErrWord", "paternoster/api.ErrNumber"], apart := false, laid := [("paternoster/api.ErrEnd", laid_paternoster_api_ErrEnd), ("paternoster/api.ErrShape", laid_paternoster_api_ErrShape), ("paternoster/api.ErrRange", laid_paternoster_api_ErrRange), ("paternoster/api.ErrMany", laid_paternoster_api_ErrMany), ("paternoster/api.ErrPower", laid_paternoster_api_ErrPower), ("paternoster/api.ErrNone", laid_paternoster_api_ErrNone), ("paternoster/api.ErrKind", laid_paternoster_api_ErrKind), ("paternoster/api.ErrOrder", laid_paternoster_api_ErrOrder), ("paternoster/api.ErrDoor", laid_paternoster_api_ErrDoor), ("paternoster/api.ErrFloor", laid_paternoster_api_ErrFloor), ("paternoster/api.ErrTwice", laid_paternoster_api_ErrTwice), ("paternoster/api.ErrWord", laid_paternoster_api_ErrWord), ("paternoster/api.ErrNumber", laid_paternoster_api_ErrNumber)] }
def WireLengthsSaid : Prop := wireLengthsRow.holds Tryd.pinned (OpenSpec.ofChange wireLengthsSpec)

/-- ITS FALSE NEIGHBOUR: 'it returns false'. Refute it at one input. -/
def wireLengthsWrong : ChangeSpec := { name := "wireLengths", fn := fun _ => fun
  | [d1, d2] => { results := [.lit (.bool false)], args := [d1, d2] }
  | _ => none }
def WireLengthsWrongFalsely : Prop := wireLengthsRow.holds Tryd.pinned (OpenSpec.ofChange wireLengthsWrong)

/-- 'paternosterlaw5.FrameRings': WHATEVER THE INPUT: true; the input reads as it did. -/
def frameRingsSpec : ChangeSpec := { name := "frameRings", fn := fun _ => fun
  | [d1, d2] => { results := [.lit (.bool true)], args := [d1, d2] }
  | _ => none }
def frameRingsRow : OpenClaim := { program := "ytogcbiooddodlaadoor", sum := "8fbe12af74af783f4d86181db483d7632ce77032d2cb6a675736a1f2ab94fc8c", func := "paternoster/paternosterlaw5.FrameRings", spec := "frameRings", unfollowed := true, recurses := true, named := ["paternoster/api.ErrKind", "paternoster/api.ErrRange", "paternoster/api.ErrMany", "paternoster/api.ErrTwice", "paternoster/api.ErrEnd", "paternoster/api.ErrShape", "paternoster/api.ErrPower", "paternoster/api.ErrNone", "paternoster/api.ErrOrder", "paternoster/api.ErrDoor", "paternoster/api.ErrFloor", "paternoster/api.ErrWord", "paternoster/api.ErrNumber"], apart := false, laid := [("paternoster/api.ErrEnd", laid_paternoster_api_ErrEnd), ("paternoster/api.ErrShape", laid_paternoster_api_ErrShape), ("paternoster/api.ErrRange", laid_paternoster_api_ErrRange), ("paternoster/api.ErrMany", laid_paternoster_api_ErrMany), ("paternoster/api.ErrPower", laid_paternoster_api_ErrPower), ("paternoster/api.ErrNone", laid_paternoster_api_ErrNone), ("paternoster/api.ErrKind", laid_paternoster_api_ErrKind), ("paternoster/api.ErrOrder", laid_paternoster_api_ErrOrder), ("paternoster/api.ErrDoor", laid_paternoster_api_ErrDoor), ("paternoster/api.ErrFloor", laid_paternoster_api_ErrFloor), ("paternoster/api.ErrTwice", laid_paternoster_api_ErrTwice), ("paternoster/api.ErrWord", laid_paternoster_api_ErrWord), ("paternoster/api.ErrNumber", laid_paternoster_api_ErrNumber)] }
def FrameRingsSaid : Prop := frameRingsRow.holds Tryd.pinned (OpenSpec.ofChange frameRingsSpec)

/-- ITS FALSE NEIGHBOUR: 'it returns false'. Refute it at one input. -/
def frameRingsWrong : ChangeSpec := { name := "frameRings", fn := fun _ => fun
  | [d1, d2] => { results := [.lit (.bool false)], args := [d1, d2] }
  | _ => none }
def FrameRingsWrongFalsely : Prop := frameRingsRow.holds Tryd.pinned (OpenSpec.ofChange frameRingsWrong)

/-- 'paternosterlaw5.FrameOwn': WHATEVER THE INPUT: true; the input reads as it did. -/
def frameOwnSpec : ChangeSpec := { name := "frameOwn", fn := fun _ => fun
  | [d1, d2] => { results := [.lit (.bool true)], args := [d1, d2] }
  | _ => none }
def frameOwnRow : OpenClaim := { program := "ytogcbiooddodlaadoor", sum := "8fbe12af74af783f4d86181db483d7632ce77032d2cb6a675736a1f2ab94fc8c", func := "paternoster/paternosterlaw5.FrameOwn", spec := "frameOwn", unfollowed := true, recurses := true, named := ["paternoster/api.ErrKind", "paternoster/api.ErrRange", "paternoster/api.ErrMany", "paternoster/api.ErrTwice"], apart := false, laid := [("paternoster/api.ErrRange", laid_paternoster_api_ErrRange), ("paternoster/api.ErrMany", laid_paternoster_api_ErrMany), ("paternoster/api.ErrKind", laid_paternoster_api_ErrKind), ("paternoster/api.ErrTwice", laid_paternoster_api_ErrTwice)] }
def FrameOwnSaid : Prop := frameOwnRow.holds Tryd.pinned (OpenSpec.ofChange frameOwnSpec)

/-- ITS FALSE NEIGHBOUR: 'it returns false'. Refute it at one input. -/
def frameOwnWrong : ChangeSpec := { name := "frameOwn", fn := fun _ => fun
  | [d1, d2] => { results := [.lit (.bool false)], args := [d1, d2] }
  | _ => none }
def FrameOwnWrongFalsely : Prop := frameOwnRow.holds Tryd.pinned (OpenSpec.ofChange frameOwnWrong)

/-- 'paternosterlaw5.FrameBeats': WHATEVER THE INPUT: true; the input reads as it did. -/
def frameBeatsSpec : ChangeSpec := { name := "frameBeats", fn := fun _ => fun
  | [d1, d2, d3, d4, d5] => { results := [.lit (.bool true)], args := [d1, d2, d3, d4, d5] }
  | _ => none }
def frameBeatsRow : OpenClaim := { program := "ytogcbiooddodlaadoor", sum := "8fbe12af74af783f4d86181db483d7632ce77032d2cb6a675736a1f2ab94fc8c", func := "paternoster/paternosterlaw5.FrameBeats", spec := "frameBeats", unfollowed := true, recurses := true, named := ["paternoster/api.ErrKind", "paternoster/api.ErrRange", "paternoster/api.ErrMany", "paternoster/api.ErrTwice", "paternoster/api.ErrEnd", "paternoster/api.ErrShape", "paternoster/api.ErrPower", "paternoster/api.ErrNone", "paternoster/api.ErrOrder", "paternoster/api.ErrDoor", "paternoster/api.ErrFloor", "paternoster/api.ErrWord", "paternoster/api.ErrNumber"], apart := false, laid := [("paternoster/api.ErrEnd", laid_paternoster_api_ErrEnd), ("paternoster/api.ErrShape", laid_paternoster_api_ErrShape), ("paternoster/api.ErrRange", laid_paternoster_api_ErrRange), ("paternoster/api.ErrMany", laid_paternoster_api_ErrMany), ("paternoster/api.ErrPower", laid_paternoster_api_ErrPower), ("paternoster/api.ErrNone", laid_paternoster_api_ErrNone), ("paternoster/api.ErrKind", laid_paternoster_api_ErrKind), ("paternoster/api.ErrOrder", laid_paternoster_api_ErrOrder), ("paternoster/api.ErrDoor", laid_paternoster_api_ErrDoor), ("paternoster/api.ErrFloor", laid_paternoster_api_ErrFloor), ("paternoster/api.ErrTwice", laid_paternoster_api_ErrTwice), ("paternoster/api.ErrWord", laid_paternoster_api_ErrWord), ("paternoster/api.ErrNumber", laid_paternoster_api_ErrNumber)] }
def FrameBeatsSaid : Prop := frameBeatsRow.holds Tryd.pinned (OpenSpec.ofChange frameBeatsSpec)

/-- ITS FALSE NEIGHBOUR: 'it returns false'. Refute it at one input. -/
def frameBeatsWrong : ChangeSpec := { name := "frameBeats", fn := fun _ => fun
  | [d1, d2, d3, d4, d5] => { results := [.lit (.bool false)], args := [d1, d2, d3, d4, d5] }
  | _ => none }
def FrameBeatsWrongFalsely : Prop := frameBeatsRow.holds Tryd.pinned (OpenSpec.ofChange frameBeatsWrong)

/-- 'paternosterlaw5.FrameBack': WHATEVER THE INPUT: true; the input reads as it did. -/
def frameBackSpec : ChangeSpec := { name := "frameBack", fn := fun _ => fun
  | [d1, d2, d3, d4] => { results := [.lit (.bool true)], args := [d1, d2, d3, d4] }
  | _ => none }
def frameBackRow : OpenClaim := { program := "ytogcbiooddodlaadoor", sum := "8fbe12af74af783f4d86181db483d7632ce77032d2cb6a675736a1f2ab94fc8c", func := "paternoster/paternosterlaw5.FrameBack", spec := "frameBack", unfollowed := true, recurses := true, named := ["paternoster/api.ErrKind", "paternoster/api.ErrRange", "paternoster/api.ErrMany", "paternoster/api.ErrTwice", "paternoster/api.ErrShape", "paternoster/api.ErrEnd"], apart := false, laid := [("paternoster/api.ErrEnd", laid_paternoster_api_ErrEnd), ("paternoster/api.ErrShape", laid_paternoster_api_ErrShape), ("paternoster/api.ErrRange", laid_paternoster_api_ErrRange), ("paternoster/api.ErrMany", laid_paternoster_api_ErrMany), ("paternoster/api.ErrKind", laid_paternoster_api_ErrKind), ("paternoster/api.ErrTwice", laid_paternoster_api_ErrTwice)] }
def FrameBackSaid : Prop := frameBackRow.holds Tryd.pinned (OpenSpec.ofChange frameBackSpec)

/-- ITS FALSE NEIGHBOUR: 'it returns false'. Refute it at one input. -/
def frameBackWrong : ChangeSpec := { name := "frameBack", fn := fun _ => fun
  | [d1, d2, d3, d4] => { results := [.lit (.bool false)], args := [d1, d2, d3, d4] }
  | _ => none }
def FrameBackWrongFalsely : Prop := frameBackRow.holds Tryd.pinned (OpenSpec.ofChange frameBackWrong)

/-- 'paternosterlaw5.FrameSays': WHATEVER THE INPUT: true; the input reads as it did. -/
def frameSaysSpec : ChangeSpec := { name := "frameSays", fn := fun _ => fun
  | [d1, d2, d3] => { results := [.lit (.bool true)], args := [d1, d2, d3] }
  | _ => none }
def frameSaysRow : OpenClaim := { program := "ytogcbiooddodlaadoor", sum := "8fbe12af74af783f4d86181db483d7632ce77032d2cb6a675736a1f2ab94fc8c", func := "paternoster/paternosterlaw5.FrameSays", spec := "frameSays", unfollowed := true, recurses := true, named := ["paternoster/api.ErrKind", "paternoster/api.ErrRange", "paternoster/api.ErrMany", "paternoster/api.ErrTwice", "paternoster/api.ErrEnd", "paternoster/api.ErrShape", "paternoster/api.ErrPower", "paternoster/api.ErrNone", "paternoster/api.ErrOrder", "paternoster/api.ErrDoor", "paternoster/api.ErrFloor", "paternoster/api.ErrWord", "paternoster/api.ErrNumber"], apart := false, laid := [("paternoster/api.ErrEnd", laid_paternoster_api_ErrEnd), ("paternoster/api.ErrShape", laid_paternoster_api_ErrShape), ("paternoster/api.ErrRange", laid_paternoster_api_ErrRange), ("paternoster/api.ErrMany", laid_paternoster_api_ErrMany), ("paternoster/api.ErrPower", laid_paternoster_api_ErrPower), ("paternoster/api.ErrNone", laid_paternoster_api_ErrNone), ("paternoster/api.ErrKind", laid_paternoster_api_ErrKind), ("paternoster/api.ErrOrder", laid_paternoster_api_ErrOrder), ("paternoster/api.ErrDoor", laid_paternoster_api_ErrDoor), ("paternoster/api.ErrFloor", laid_paternoster_api_ErrFloor), ("paternoster/api.ErrTwice", laid_paternoster_api_ErrTwice), ("paternoster/api.ErrWord", laid_paternoster_api_ErrWord), ("paternoster/api.ErrNumber", laid_paternoster_api_ErrNumber)] }
def FrameSaysSaid : Prop := frameSaysRow.holds Tryd.pinned (OpenSpec.ofChange frameSaysSpec)

/-- ITS FALSE NEIGHBOUR: 'it returns false'. Refute it at one input. -/
def frameSaysWrong : ChangeSpec := { name := "frameSays", fn := fun _ => fun
  | [d1, d2, d3] => { results := [.lit (.bool false)], args := [d1, d2, d3] }
  | _ => none }
def FrameSaysWrongFalsely : Prop := frameSaysRow.holds Tryd.pinned (OpenSpec.ofChange frameSaysWrong)

/- THE SECOND FORM. 'bulk': how many values and letters a reading holds, each counted each time it is reached (what is shared counts as often as it is met; a slice's spare places count too). A statement '..UptoSaid' is the law's where the arguments, and the package variables that the reading takes, are together of bulk at most 1048576: NARROWER than '..Said'. Prove '..Said' where nothing that the law and all that it calls make is longer than what came in: it says more and counts as full. Else prove '..UptoSaid'. A law counts once. -/
mutual
def uptoBulk {H : Type} : DataW H → Nat
  | .lit (.string bytes) => bytes.length + 1
  | .lit _ => 1
  | .nil => 1
  | .ptr d => uptoBulk d + 1
  | .slice elems spare => uptoBulkAll elems + uptoBulkAll spare + 1
  | .agg parts => uptoBulkAll parts + 1
  | .iface _ d => uptoBulk d + 1
  | .map entries => uptoBulkEntries entries + 1
  | .held _ => 1
def uptoBulkAll {H : Type} : List (DataW H) → Nat
  | [] => 0
  | d :: r => uptoBulk d + uptoBulkAll r
def uptoBulkEntries {H : Type} : List (Lit × DataW H) → Nat
  | [] => 0
  | x :: r => uptoBulkEntry x + uptoBulkEntries r
def uptoBulkEntry {H : Type} : Lit × DataW H → Nat
  | (.string bytes, d) => bytes.length + uptoBulk d + 1
  | (_, d) => uptoBulk d + 1
 end
def uptoSmall : (H : Type) → List (DataW H) → Bool := fun _ ds => decide (uptoBulkAll ds ≤ 1048576)
def OpenSpec.upto (s : _root_.Go.ChangeSpec) : _root_.Go.OpenSpec := { _root_.Go.OpenSpec.ofChange s with cond := some uptoSmall }

/-- 'paternosterlaw1.WireForms', WHERE WHAT IT READS IS OF BULK AT MOST 1048576: true; the input reads as it did. -/
def wireFormsUptoRow : OpenClaim := { program := "ytogcbiooddodlaadoor", sum := "8fbe12af74af783f4d86181db483d7632ce77032d2cb6a675736a1f2ab94fc8c", func := "paternoster/paternosterlaw1.WireForms", spec := "wireForms", named := ["paternoster/api.ErrRange", "paternoster/api.ErrEnd", "paternoster/api.ErrShape", "paternoster/api.ErrMany", "paternoster/api.ErrPower", "paternoster/api.ErrNone", "paternoster/api.ErrKind", "paternoster/api.ErrOrder", "paternoster/api.ErrDoor", "paternoster/api.ErrFloor", "paternoster/api.ErrTwice", "paternoster/api.ErrWord", "paternoster/api.ErrNumber"], apart := false, laid := [("paternoster/api.ErrEnd", laid_paternoster_api_ErrEnd), ("paternoster/api.ErrShape", laid_paternoster_api_ErrShape), ("paternoster/api.ErrRange", laid_paternoster_api_ErrRange), ("paternoster/api.ErrMany", laid_paternoster_api_ErrMany), ("paternoster/api.ErrPower", laid_paternoster_api_ErrPower), ("paternoster/api.ErrNone", laid_paternoster_api_ErrNone), ("paternoster/api.ErrKind", laid_paternoster_api_ErrKind), ("paternoster/api.ErrOrder", laid_paternoster_api_ErrOrder), ("paternoster/api.ErrDoor", laid_paternoster_api_ErrDoor), ("paternoster/api.ErrFloor", laid_paternoster_api_ErrFloor), ("paternoster/api.ErrTwice", laid_paternoster_api_ErrTwice), ("paternoster/api.ErrWord", laid_paternoster_api_ErrWord), ("paternoster/api.ErrNumber", laid_paternoster_api_ErrNumber)], narrowed := true }
def WireFormsUptoSaid : Prop := wireFormsUptoRow.holds Tryd.pinned (OpenSpec.upto wireFormsSpec)

/-- 'paternosterlaw1.WireTwins', WHERE WHAT IT READS IS OF BULK AT MOST 1048576: true; the input reads as it did. -/
def wireTwinsUptoRow : OpenClaim := { program := "ytogcbiooddodlaadoor", sum := "8fbe12af74af783f4d86181db483d7632ce77032d2cb6a675736a1f2ab94fc8c", func := "paternoster/paternosterlaw1.WireTwins", spec := "wireTwins", named := ["paternoster/api.ErrRange", "paternoster/api.ErrEnd", "paternoster/api.ErrShape"], apart := false, laid := [("paternoster/api.ErrEnd", laid_paternoster_api_ErrEnd), ("paternoster/api.ErrShape", laid_paternoster_api_ErrShape), ("paternoster/api.ErrRange", laid_paternoster_api_ErrRange)], narrowed := true }
def WireTwinsUptoSaid : Prop := wireTwinsUptoRow.holds Tryd.pinned (OpenSpec.upto wireTwinsSpec)

/-- 'paternosterlaw1.WirePuts', WHERE WHAT IT READS IS OF BULK AT MOST 1048576: true; the input reads as it did. -/
def wirePutsUptoRow : OpenClaim := { program := "ytogcbiooddodlaadoor", sum := "8fbe12af74af783f4d86181db483d7632ce77032d2cb6a675736a1f2ab94fc8c", func := "paternoster/paternosterlaw1.WirePuts", spec := "wirePuts", named := ["paternoster/api.ErrRange", "paternoster/api.ErrEnd", "paternoster/api.ErrShape"], apart := false, laid := [("paternoster/api.ErrEnd", laid_paternoster_api_ErrEnd), ("paternoster/api.ErrShape", laid_paternoster_api_ErrShape), ("paternoster/api.ErrRange", laid_paternoster_api_ErrRange)], narrowed := true }
def WirePutsUptoSaid : Prop := wirePutsUptoRow.holds Tryd.pinned (OpenSpec.upto wirePutsSpec)

/-- 'paternosterlaw1.WireRanges', WHERE WHAT IT READS IS OF BULK AT MOST 1048576: true; the input reads as it did. -/
def wireRangesUptoRow : OpenClaim := { program := "ytogcbiooddodlaadoor", sum := "8fbe12af74af783f4d86181db483d7632ce77032d2cb6a675736a1f2ab94fc8c", func := "paternoster/paternosterlaw1.WireRanges", spec := "wireRanges", named := ["paternoster/api.ErrRange", "paternoster/api.ErrEnd", "paternoster/api.ErrShape", "paternoster/api.ErrMany", "paternoster/api.ErrPower", "paternoster/api.ErrNone", "paternoster/api.ErrKind", "paternoster/api.ErrOrder", "paternoster/api.ErrDoor", "paternoster/api.ErrFloor", "paternoster/api.ErrTwice", "paternoster/api.ErrWord", "paternoster/api.ErrNumber"], apart := false, laid := [("paternoster/api.ErrEnd", laid_paternoster_api_ErrEnd), ("paternoster/api.ErrShape", laid_paternoster_api_ErrShape), ("paternoster/api.ErrRange", laid_paternoster_api_ErrRange), ("paternoster/api.ErrMany", laid_paternoster_api_ErrMany), ("paternoster/api.ErrPower", laid_paternoster_api_ErrPower), ("paternoster/api.ErrNone", laid_paternoster_api_ErrNone), ("paternoster/api.ErrKind", laid_paternoster_api_ErrKind), ("paternoster/api.ErrOrder", laid_paternoster_api_ErrOrder), ("paternoster/api.ErrDoor", laid_paternoster_api_ErrDoor), ("paternoster/api.ErrFloor", laid_paternoster_api_ErrFloor), ("paternoster/api.ErrTwice", laid_paternoster_api_ErrTwice), ("paternoster/api.ErrWord", laid_paternoster_api_ErrWord), ("paternoster/api.ErrNumber", laid_paternoster_api_ErrNumber)], narrowed := true }
def WireRangesUptoSaid : Prop := wireRangesUptoRow.holds Tryd.pinned (OpenSpec.upto wireRangesSpec)

/-- 'paternosterlaw1.WireRows', WHERE WHAT IT READS IS OF BULK AT MOST 1048576: true; the input reads as it did. -/
def wireRowsUptoRow : OpenClaim := { program := "ytogcbiooddodlaadoor", sum := "8fbe12af74af783f4d86181db483d7632ce77032d2cb6a675736a1f2ab94fc8c", func := "paternoster/paternosterlaw1.WireRows", spec := "wireRows", named := ["paternoster/api.ErrRange", "paternoster/api.ErrEnd", "paternoster/api.ErrShape", "paternoster/api.ErrMany", "paternoster/api.ErrPower", "paternoster/api.ErrNone", "paternoster/api.ErrKind", "paternoster/api.ErrOrder", "paternoster/api.ErrDoor", "paternoster/api.ErrFloor", "paternoster/api.ErrTwice", "paternoster/api.ErrWord", "paternoster/api.ErrNumber"], apart := false, laid := [("paternoster/api.ErrEnd", laid_paternoster_api_ErrEnd), ("paternoster/api.ErrShape", laid_paternoster_api_ErrShape), ("paternoster/api.ErrRange", laid_paternoster_api_ErrRange), ("paternoster/api.ErrMany", laid_paternoster_api_ErrMany), ("paternoster/api.ErrPower", laid_paternoster_api_ErrPower), ("paternoster/api.ErrNone", laid_paternoster_api_ErrNone), ("paternoster/api.ErrKind", laid_paternoster_api_ErrKind), ("paternoster/api.ErrOrder", laid_paternoster_api_ErrOrder), ("paternoster/api.ErrDoor", laid_paternoster_api_ErrDoor), ("paternoster/api.ErrFloor", laid_paternoster_api_ErrFloor), ("paternoster/api.ErrTwice", laid_paternoster_api_ErrTwice), ("paternoster/api.ErrWord", laid_paternoster_api_ErrWord), ("paternoster/api.ErrNumber", laid_paternoster_api_ErrNumber)], narrowed := true }
def WireRowsUptoSaid : Prop := wireRowsUptoRow.holds Tryd.pinned (OpenSpec.upto wireRowsSpec)

/-- 'paternosterlaw1.WireLengths', WHERE WHAT IT READS IS OF BULK AT MOST 1048576: true; the input reads as it did. -/
def wireLengthsUptoRow : OpenClaim := { program := "ytogcbiooddodlaadoor", sum := "8fbe12af74af783f4d86181db483d7632ce77032d2cb6a675736a1f2ab94fc8c", func := "paternoster/paternosterlaw1.WireLengths", spec := "wireLengths", named := ["paternoster/api.ErrRange", "paternoster/api.ErrEnd", "paternoster/api.ErrShape", "paternoster/api.ErrMany", "paternoster/api.ErrPower", "paternoster/api.ErrNone", "paternoster/api.ErrKind", "paternoster/api.ErrOrder", "paternoster/api.ErrDoor", "paternoster/api.ErrFloor", "paternoster/api.ErrTwice", "paternoster/api.ErrWord", "paternoster/api.ErrNumber"], apart := false, laid := [("paternoster/api.ErrEnd", laid_paternoster_api_ErrEnd), ("paternoster/api.ErrShape", laid_paternoster_api_ErrShape), ("paternoster/api.ErrRange", laid_paternoster_api_ErrRange), ("paternoster/api.ErrMany", laid_paternoster_api_ErrMany), ("paternoster/api.ErrPower", laid_paternoster_api_ErrPower), ("paternoster/api.ErrNone", laid_paternoster_api_ErrNone), ("paternoster/api.ErrKind", laid_paternoster_api_ErrKind), ("paternoster/api.ErrOrder", laid_paternoster_api_ErrOrder), ("paternoster/api.ErrDoor", laid_paternoster_api_ErrDoor), ("paternoster/api.ErrFloor", laid_paternoster_api_ErrFloor), ("paternoster/api.ErrTwice", laid_paternoster_api_ErrTwice), ("paternoster/api.ErrWord", laid_paternoster_api_ErrWord), ("paternoster/api.ErrNumber", laid_paternoster_api_ErrNumber)], narrowed := true }
def WireLengthsUptoSaid : Prop := wireLengthsUptoRow.holds Tryd.pinned (OpenSpec.upto wireLengthsSpec)

/-- 'paternosterlaw5.FrameRings', WHERE WHAT IT READS IS OF BULK AT MOST 1048576: true; the input reads as it did. -/
def frameRingsUptoRow : OpenClaim := { program := "ytogcbiooddodlaadoor", sum := "8fbe12af74af783f4d86181db483d7632ce77032d2cb6a675736a1f2ab94fc8c", func := "paternoster/paternosterlaw5.FrameRings", spec := "frameRings", unfollowed := true, recurses := true, named := ["paternoster/api.ErrKind", "paternoster/api.ErrRange", "paternoster/api.ErrMany", "paternoster/api.ErrTwice", "paternoster/api.ErrEnd", "paternoster/api.ErrShape", "paternoster/api.ErrPower", "paternoster/api.ErrNone", "paternoster/api.ErrOrder", "paternoster/api.ErrDoor", "paternoster/api.ErrFloor", "paternoster/api.ErrWord", "paternoster/api.ErrNumber"], apart := false, laid := [("paternoster/api.ErrEnd", laid_paternoster_api_ErrEnd), ("paternoster/api.ErrShape", laid_paternoster_api_ErrShape), ("paternoster/api.ErrRange", laid_paternoster_api_ErrRange), ("paternoster/api.ErrMany", laid_paternoster_api_ErrMany), ("paternoster/api.ErrPower", laid_paternoster_api_ErrPower), ("paternoster/api.ErrNone", laid_paternoster_api_ErrNone), ("paternoster/api.ErrKind", laid_paternoster_api_ErrKind), ("paternoster/api.ErrOrder", laid_paternoster_api_ErrOrder), ("paternoster/api.ErrDoor", laid_paternoster_api_ErrDoor), ("paternoster/api.ErrFloor", laid_paternoster_api_ErrFloor), ("paternoster/api.ErrTwice", laid_paternoster_api_ErrTwice), ("paternoster/api.ErrWord", laid_paternoster_api_ErrWord), ("paternoster/api.ErrNumber", laid_paternoster_api_ErrNumber)], narrowed := true }
def FrameRingsUptoSaid : Prop := frameRingsUptoRow.holds Tryd.pinned (OpenSpec.upto frameRingsSpec)

/-- 'paternosterlaw5.FrameOwn', WHERE WHAT IT READS IS OF BULK AT MOST 1048576: true; the input reads as it did. -/
def frameOwnUptoRow : OpenClaim := { program := "ytogcbiooddodlaadoor", sum := "8fbe12af74af783f4d86181db483d7632ce77032d2cb6a675736a1f2ab94fc8c", func := "paternoster/paternosterlaw5.FrameOwn", spec := "frameOwn", unfollowed := true, recurses := true, named := ["paternoster/api.ErrKind", "paternoster/api.ErrRange", "paternoster/api.ErrMany", "paternoster/api.ErrTwice"], apart := false, laid := [("paternoster/api.ErrRange", laid_paternoster_api_ErrRange), ("paternoster/api.ErrMany", laid_paternoster_api_ErrMany), ("paternoster/api.ErrKind", laid_paternoster_api_ErrKind), ("paternoster/api.ErrTwice", laid_paternoster_api_ErrTwice)], narrowed := true }
def FrameOwnUptoSaid : Prop := frameOwnUptoRow.holds Tryd.pinned (OpenSpec.upto frameOwnSpec)

/-- 'paternosterlaw5.FrameBeats', WHERE WHAT IT READS IS OF BULK AT MOST 1048576: true; the input reads as it did. -/
def frameBeatsUptoRow : OpenClaim := { program := "ytogcbiooddodlaadoor", sum := "8fbe12af74af783f4d86181db483d7632ce77032d2cb6a675736a1f2ab94fc8c", func := "paternoster/paternosterlaw5.FrameBeats", spec := "frameBeats", unfollowed := true, recurses := true, named := ["paternoster/api.ErrKind", "paternoster/api.ErrRange", "paternoster/api.ErrMany", "paternoster/api.ErrTwice", "paternoster/api.ErrEnd", "paternoster/api.ErrShape", "paternoster/api.ErrPower", "paternoster/api.ErrNone", "paternoster/api.ErrOrder", "paternoster/api.ErrDoor", "paternoster/api.ErrFloor", "paternoster/api.ErrWord", "paternoster/api.ErrNumber"], apart := false, laid := [("paternoster/api.ErrEnd", laid_paternoster_api_ErrEnd), ("paternoster/api.ErrShape", laid_paternoster_api_ErrShape), ("paternoster/api.ErrRange", laid_paternoster_api_ErrRange), ("paternoster/api.ErrMany", laid_paternoster_api_ErrMany), ("paternoster/api.ErrPower", laid_paternoster_api_ErrPower), ("paternoster/api.ErrNone", laid_paternoster_api_ErrNone), ("paternoster/api.ErrKind", laid_paternoster_api_ErrKind), ("paternoster/api.ErrOrder", laid_paternoster_api_ErrOrder), ("paternoster/api.ErrDoor", laid_paternoster_api_ErrDoor), ("paternoster/api.ErrFloor", laid_paternoster_api_ErrFloor), ("paternoster/api.ErrTwice", laid_paternoster_api_ErrTwice), ("paternoster/api.ErrWord", laid_paternoster_api_ErrWord), ("paternoster/api.ErrNumber", laid_paternoster_api_ErrNumber)], narrowed := true }
def FrameBeatsUptoSaid : Prop := frameBeatsUptoRow.holds Tryd.pinned (OpenSpec.upto frameBeatsSpec)

/-- 'paternosterlaw5.FrameBack', WHERE WHAT IT READS IS OF BULK AT MOST 1048576: true; the input reads as it did. -/
def frameBackUptoRow : OpenClaim := { program := "ytogcbiooddodlaadoor", sum := "8fbe12af74af783f4d86181db483d7632ce77032d2cb6a675736a1f2ab94fc8c", func := "paternoster/paternosterlaw5.FrameBack", spec := "frameBack", unfollowed := true, recurses := true, named := ["paternoster/api.ErrKind", "paternoster/api.ErrRange", "paternoster/api.ErrMany", "paternoster/api.ErrTwice", "paternoster/api.ErrShape", "paternoster/api.ErrEnd"], apart := false, laid := [("paternoster/api.ErrEnd", laid_paternoster_api_ErrEnd), ("paternoster/api.ErrShape", laid_paternoster_api_ErrShape), ("paternoster/api.ErrRange", laid_paternoster_api_ErrRange), ("paternoster/api.ErrMany", laid_paternoster_api_ErrMany), ("paternoster/api.ErrKind", laid_paternoster_api_ErrKind), ("paternoster/api.ErrTwice", laid_paternoster_api_ErrTwice)], narrowed := true }
def FrameBackUptoSaid : Prop := frameBackUptoRow.holds Tryd.pinned (OpenSpec.upto frameBackSpec)

/-- 'paternosterlaw5.FrameSays', WHERE WHAT IT READS IS OF BULK AT MOST 1048576: true; the input reads as it did. -/
def frameSaysUptoRow : OpenClaim := { program := "ytogcbiooddodlaadoor", sum := "8fbe12af74af783f4d86181db483d7632ce77032d2cb6a675736a1f2ab94fc8c", func := "paternoster/paternosterlaw5.FrameSays", spec := "frameSays", unfollowed := true, recurses := true, named := ["paternoster/api.ErrKind", "paternoster/api.ErrRange", "paternoster/api.ErrMany", "paternoster/api.ErrTwice", "paternoster/api.ErrEnd", "paternoster/api.ErrShape", "paternoster/api.ErrPower", "paternoster/api.ErrNone", "paternoster/api.ErrOrder", "paternoster/api.ErrDoor", "paternoster/api.ErrFloor", "paternoster/api.ErrWord", "paternoster/api.ErrNumber"], apart := false, laid := [("paternoster/api.ErrEnd", laid_paternoster_api_ErrEnd), ("paternoster/api.ErrShape", laid_paternoster_api_ErrShape), ("paternoster/api.ErrRange", laid_paternoster_api_ErrRange), ("paternoster/api.ErrMany", laid_paternoster_api_ErrMany), ("paternoster/api.ErrPower", laid_paternoster_api_ErrPower), ("paternoster/api.ErrNone", laid_paternoster_api_ErrNone), ("paternoster/api.ErrKind", laid_paternoster_api_ErrKind), ("paternoster/api.ErrOrder", laid_paternoster_api_ErrOrder), ("paternoster/api.ErrDoor", laid_paternoster_api_ErrDoor), ("paternoster/api.ErrFloor", laid_paternoster_api_ErrFloor), ("paternoster/api.ErrTwice", laid_paternoster_api_ErrTwice), ("paternoster/api.ErrWord", laid_paternoster_api_ErrWord), ("paternoster/api.ErrNumber", laid_paternoster_api_ErrNumber)], narrowed := true }
def FrameSaysUptoSaid : Prop := frameSaysUptoRow.holds Tryd.pinned (OpenSpec.upto frameSaysSpec)

end Rows
end Go.Proofs.YtogcbiooddodlaaDoor
