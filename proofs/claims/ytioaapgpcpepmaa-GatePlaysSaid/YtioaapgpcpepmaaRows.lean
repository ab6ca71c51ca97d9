/-
  No cell of these rows narrows 'for every input' (looked for: loops, veiled, ifaces, maps, wideKeys, modest, calm, conditions, laid).
  DERIVED. THE GIVEN ROWS OF THIS SEAT. 5 by the template 'for every input the law returns true; each argument reads behind the call as it read before'; 0 by the template 'total and deterministic' (their statements: YtioaapgpcpepmaaTotals.lean).
  GIVEN WITH THE SEED: the statements are not yours to turn. If you find one false, say at which input.
  Laid BY PROGRAM, IN A SANDBOX (cutbox-rows.mjs): the forced cells as the released guide's own fill.sh prints them over the translation 8b33d9e250342edc… (all of the seat's roots in one cut). By AI agents, Wed Nov 11 2026. No macro, syntax, notation, axiom, sorry.
-/
import Derived.Test.YtioaapgpcpepmaaChecked
import GoSem.Claim
import GoSem.ClaimJoined
import GoSem.ClaimMapViews
import Derived.JoinedTies
import Derived.KernelRfl
namespace Go.Proofs.Ytioaapgpcpepmaa
/- THE CELL 'sum', in the pinned program and in every row, IS THE sha256 OF THE DUMP (.gsa) THAT YtioaapgpcpepmaaProg.lean LOADS. Nothing in Lean hashes anything: it is a label: what it is worth is what the hold of that sum in a sandbox is worth. -/
noncomputable def Try.pinned : Pinned := { name := "ytioaapgpcpepmaa", sum := "8b33d9e250342edc542e532854bfd00646ace7576b241aea1609dea59c643ff9", checked := Try.checked }
namespace Rows
def none {H : Type} : Left H := { results := [], args := [] }

/-- 'paternosterlaw9.GateOnce': WHATEVER THE INPUT: true; the input reads as it did. -/
def gateOnceSpec : ChangeSpec := { name := "gateOnce", fn := fun _ => fun
  | [d1, d2, d3] => { results := [.lit (.bool true)], args := [d1, d2, d3] }
  | _ => none }
def gateOnceRow : OpenClaim := { program := "ytioaapgpcpepmaa", sum := "8b33d9e250342edc542e532854bfd00646ace7576b241aea1609dea59c643ff9", func := "paternoster/paternosterlaw9.GateOnce", spec := "gateOnce", apart := false }
def GateOnceSaid : Prop := gateOnceRow.holds Try.pinned (OpenSpec.ofChange gateOnceSpec)

/-- ITS FALSE NEIGHBOUR: 'it returns false'. Refute it at one input. -/
def gateOnceWrong : ChangeSpec := { name := "gateOnce", fn := fun _ => fun
  | [d1, d2, d3] => { results := [.lit (.bool false)], args := [d1, d2, d3] }
  | _ => none }
def GateOnceWrongFalsely : Prop := gateOnceRow.holds Try.pinned (OpenSpec.ofChange gateOnceWrong)

/-- 'paternosterlaw9.GateHops': WHATEVER THE INPUT: true; the input reads as it did. -/
def gateHopsSpec : ChangeSpec := { name := "gateHops", fn := fun _ => fun
  | [d1, d2] => { results := [.lit (.bool true)], args := [d1, d2] }
  | _ => none }
def gateHopsRow : OpenClaim := { program := "ytioaapgpcpepmaa", sum := "8b33d9e250342edc542e532854bfd00646ace7576b241aea1609dea59c643ff9", func := "paternoster/paternosterlaw9.GateHops", spec := "gateHops", apart := false }
def GateHopsSaid : Prop := gateHopsRow.holds Try.pinned (OpenSpec.ofChange gateHopsSpec)

/-- ITS FALSE NEIGHBOUR: 'it returns false'. Refute it at one input. -/
def gateHopsWrong : ChangeSpec := { name := "gateHops", fn := fun _ => fun
  | [d1, d2] => { results := [.lit (.bool false)], args := [d1, d2] }
  | _ => none }
def GateHopsWrongFalsely : Prop := gateHopsRow.holds Try.pinned (OpenSpec.ofChange gateHopsWrong)

/-- 'paternosterlaw9.GateFloors': WHATEVER THE INPUT: true; the input reads as it did. -/
def gateFloorsSpec : ChangeSpec := { name := "gateFloors", fn := fun _ => fun
  | [d1, d2, d3, d4] => { results := [.lit (.bool true)], args := [d1, d2, d3, d4] }
  | _ => none }
def gateFloorsRow : OpenClaim := { program := "ytioaapgpcpepmaa", sum := "8b33d9e250342edc542e532854bfd00646ace7576b241aea1609dea59c643ff9", func := "paternoster/paternosterlaw9.GateFloors", spec := "gateFloors", apart := false }
def GateFloorsSaid : Prop := gateFloorsRow.holds Try.pinned (OpenSpec.ofChange gateFloorsSpec)

/-- ITS FALSE NEIGHBOUR: 'it returns false'. Refute it at one input. -/
def gateFloorsWrong : ChangeSpec := { name := "gateFloors", fn := fun _ => fun
  | [d1, d2, d3, d4] => { results := [.lit (.bool false)], args := [d1, d2, d3, d4] }
  | _ => none }
def GateFloorsWrongFalsely : Prop := gateFloorsRow.holds Try.pinned (OpenSpec.ofChange gateFloorsWrong)

/-- 'paternosterlaw9.GateFounds': WHATEVER THE INPUT: true; the input reads as it did. -/
def gateFoundsSpec : ChangeSpec := { name := "gateFounds", fn := fun _ => fun
  | [d1, d2, d3, d4] => { results := [.lit (.bool true)], args := [d1, d2, d3, d4] }
  | _ => none }
def gateFoundsRow : OpenClaim := { program := "ytioaapgpcpepmaa", sum := "8b33d9e250342edc542e532854bfd00646ace7576b241aea1609dea59c643ff9", func := "paternoster/paternosterlaw9.GateFounds", spec := "gateFounds", apart := false }
def GateFoundsSaid : Prop := gateFoundsRow.holds Try.pinned (OpenSpec.ofChange gateFoundsSpec)

/-- ITS FALSE NEIGHBOUR: 'it returns false'. Refute it at one input. -/
def gateFoundsWrong : ChangeSpec := { name := "gateFounds", fn := fun _ => fun
  | [d1, d2, d3, d4] => { results := [.lit (.bool false)], args := [d1, d2, d3, d4] }
  | _ => none }
def GateFoundsWrongFalsely : Prop := gateFoundsRow.holds Try.pinned (OpenSpec.ofChange gateFoundsWrong)

/-- 'paternosterlaw9.GatePlays': WHATEVER THE INPUT: true; the input reads as it did. -/
def gatePlaysSpec : ChangeSpec := { name := "gatePlays", fn := fun _ => fun
  | [d1, d2] => { results := [.lit (.bool true)], args := [d1, d2] }
  | _ => none }
def gatePlaysRow : OpenClaim := { program := "ytioaapgpcpepmaa", sum := "8b33d9e250342edc542e532854bfd00646ace7576b241aea1609dea59c643ff9", func := "paternoster/paternosterlaw9.GatePlays", spec := "gatePlays", apart := false }
def GatePlaysSaid : Prop := gatePlaysRow.holds Try.pinned (OpenSpec.ofChange gatePlaysSpec)

/-- ITS FALSE NEIGHBOUR: 'it returns false'. Refute it at one input. -/
def gatePlaysWrong : ChangeSpec := { name := "gatePlays", fn := fun _ => fun
  | [d1, d2] => { results := [.lit (.bool false)], args := [d1, d2] }
  | _ => none }
def GatePlaysWrongFalsely : Prop := gatePlaysRow.holds Try.pinned (OpenSpec.ofChange gatePlaysWrong)

/- THE SECOND FORM. 'bulk': how many values and letters a reading holds, each counted each time it is reached (what is shared counts as often as it is met; a slice's spare places count too). A statement '..UptoSaid' is the law's where the arguments, and the package variables that the reading takes, are together of bulk at most 1048576: NARROWER than '..Said'. Prove '..Said' where nothing that the law and all that it calls make is longer than what came in: it says more and counts as full. Else prove '..UptoSaid'. A law counts once. -/
mutual
def uptoBulk {H : Type} : DataW H → Nat
  | .lit (.string bytes) => bytes.length + 1
  | .lit _ => 1
  | .nil => 1
  | .ptr d => uptoBulk d + 1
  | .slice elems spare => uptoBulkAll elems + uptoBulkAll spare + 1
  | .agg parts => uptoBulkAll parts + 1
  | .iface _ d => uptoBulk d + 1
  | .map entries => uptoBulkEntries entries + 1
  | .held _ => 1
def uptoBulkAll {H : Type} : List (DataW H) → Nat
  | [] => 0
  | d :: r => uptoBulk d + uptoBulkAll r
def uptoBulkEntries {H : Type} : List (Lit × DataW H) → Nat
  | [] => 0
  | x :: r => uptoBulkEntry x + uptoBulkEntries r
def uptoBulkEntry {H : Type} : Lit × DataW H → Nat
  | (.string bytes, d) => bytes.length + uptoBulk d + 1
  | (_, d) => uptoBulk d + 1
 end
def uptoSmall : (H : Type) → List (DataW H) → Bool := fun _ ds => decide (uptoBulkAll ds ≤ 1048576)
def OpenSpec.upto (s : _root_.Go.ChangeSpec) : _root_.Go.OpenSpec := { _root_.Go.OpenSpec.ofChange s with cond := some uptoSmall }

/-- 'paternosterlaw9.GateOnce', WHERE WHAT IT READS IS OF BULK AT MOST 1048576: true; the input reads as it did. -/
def gateOnceUptoRow : OpenClaim := { program := "ytioaapgpcpepmaa", sum := "8b33d9e250342edc542e532854bfd00646ace7576b241aea1609dea59c643ff9", func := "paternoster/paternosterlaw9.GateOnce", spec := "gateOnce", apart := false, narrowed := true }
def GateOnceUptoSaid : Prop := gateOnceUptoRow.holds Try.pinned (OpenSpec.upto gateOnceSpec)

/-- 'paternosterlaw9.GateHops', WHERE WHAT IT READS IS OF BULK AT MOST 1048576: true; the input reads as it did. -/
def gateHopsUptoRow : OpenClaim := { program := "ytioaapgpcpepmaa", sum := "8b33d9e250342edc542e532854bfd00646ace7576b241aea1609dea59c643ff9", func := "paternoster/paternosterlaw9.GateHops", spec := "gateHops", apart := false, narrowed := true }
def GateHopsUptoSaid : Prop := gateHopsUptoRow.holds Try.pinned (OpenSpec.upto gateHopsSpec)

/-- 'paternosterlaw9.GateFloors', WHERE WHAT IT READS IS OF BULK AT MOST 1048576: true; the input reads as it did. -/
def gateFloorsUptoRow : OpenClaim := { program := "ytioaapgpcpepmaa", sum := "8b33d9e250342edc542e532854bfd00646ace7576b241aea1609dea59c643ff9", func := "paternoster/paternosterlaw9.GateFloors", spec := "gateFloors", apart := false, narrowed := true }
def GateFloorsUptoSaid : Prop := gateFloorsUptoRow.holds Try.pinned (OpenSpec.upto gateFloorsSpec)

/-- 'paternosterlaw9.GateFounds', WHERE WHAT IT READS IS OF BULK AT MOST 1048576: true; the input reads as it did. -/
def gateFoundsUptoRow : OpenClaim := { program := "ytioaapgpcpepmaa", sum := "8b33d9e250342edc542e532854bfd00646ace7576b241aea1609dea59c643ff9", func := "paternoster/paternosterlaw9.GateFounds", spec := "gateFounds", apart := false, narrowed := true }
def GateFoundsUptoSaid : Prop := gateFoundsUptoRow.holds Try.pinned (OpenSpec.upto gateFoundsSpec)

/-- 'paternosterlaw9.GatePlays', WHERE WHAT IT READS IS OF BULK AT MOST 1048576: true; the input reads as it did. -/
def gatePlaysUptoRow : OpenClaim := { program := "ytioaapgpcpepmaa", sum := "8b33d9e250342edc542e532854bfd00646ace7576b241aea1609dea59c643ff9", func := "paternoster/paternosterlaw9.GatePlays", spec := "gatePlays", apart := false, narrowed := true }
def GatePlaysUptoSaid : Prop := gatePlaysUptoRow.holds Try.pinned (OpenSpec.upto gatePlaysSpec)

end Rows
end Go.Proofs.Ytioaapgpcpepmaa
