/-
  No cell of these rows narrows 'for every input' (looked for: loops, veiled, ifaces, maps, wideKeys, modest, calm, conditions, laid).
  DERIVED. THE GIVEN ROWS OF THIS SEAT. 4 by the template 'for every input the law returns true; each argument reads behind the call as it read before'; 0 by the template 'total and deterministic' (their statements: YtlihiiaabfkhaaaTotals.lean).
  GIVEN WITH THE SEED: the statements are not yours to turn. If you find one false, say at which input.
  Laid BY PROGRAM, IN A SANDBOX (cutbox-rows.mjs): the forced cells as the released guide's own fill.sh prints them over the translation 5eb8db31f2cf09af… (all of the seat's roots in one cut). By AI agents, Wed Nov 11 2026. No macro, syntax, notation, axiom, sorry.
-/
import Derived.Test.YtlihiiaabfkhaaaChecked
import GoSem.Claim
import GoSem.ClaimJoined
import GoSem.ClaimMapViews
import Derived.JoinedTies
import Derived.KernelRfl
namespace Go.Proofs.Ytlihiiaabfkhaaa
/- THE CELL 'sum', in the pinned program and in every row, IS THE sha256 OF THE DUMP (.gsa) THAT YtlihiiaabfkhaaaProg.lean LOADS. Nothing in Lean hashes anything: it is a label: what it is worth is what the hold of that sum in a sandbox is worth. -/
noncomputable def Try.pinned : Pinned := { name := "ytlihiiaabfkhaaa", sum := "5eb8db31f2cf09aff704399695fac634751a15a26117dde64a9f4a7072ee23d4", checked := Try.checked }
namespace Rows
def none {H : Type} : Left H := { results := [], args := [] }

/-- 'paternosterlaw7.LiveSeen': WHATEVER THE INPUT: true; the input reads as it did. -/
def liveSeenSpec : ChangeSpec := { name := "liveSeen", fn := fun _ => fun
  | [d] => { results := [.lit (.bool true)], args := [d] }
  | _ => none }
def liveSeenRow : OpenClaim := { program := "ytlihiiaabfkhaaa", sum := "5eb8db31f2cf09aff704399695fac634751a15a26117dde64a9f4a7072ee23d4", func := "paternoster/paternosterlaw7.LiveSeen", spec := "liveSeen", apart := false }
def LiveSeenSaid : Prop := liveSeenRow.holds Try.pinned (OpenSpec.ofChange liveSeenSpec)

/-- ITS FALSE NEIGHBOUR: 'it returns false'. Refute it at one input. -/
def liveSeenWrong : ChangeSpec := { name := "liveSeen", fn := fun _ => fun
  | [d] => { results := [.lit (.bool false)], args := [d] }
  | _ => none }
def LiveSeenWrongFalsely : Prop := liveSeenRow.holds Try.pinned (OpenSpec.ofChange liveSeenWrong)

/-- 'paternosterlaw7.LiveHolds': WHATEVER THE INPUT: true; the input reads as it did. -/
def liveHoldsSpec : ChangeSpec := { name := "liveHolds", fn := fun _ => fun
  | [d1, d2, d3] => { results := [.lit (.bool true)], args := [d1, d2, d3] }
  | _ => none }
def liveHoldsRow : OpenClaim := { program := "ytlihiiaabfkhaaa", sum := "5eb8db31f2cf09aff704399695fac634751a15a26117dde64a9f4a7072ee23d4", func := "paternoster/paternosterlaw7.LiveHolds", spec := "liveHolds", apart := false }
def LiveHoldsSaid : Prop := liveHoldsRow.holds Try.pinned (OpenSpec.ofChange liveHoldsSpec)

/-- ITS FALSE NEIGHBOUR: 'it returns false'. Refute it at one input. -/
def liveHoldsWrong : ChangeSpec := { name := "liveHolds", fn := fun _ => fun
  | [d1, d2, d3] => { results := [.lit (.bool false)], args := [d1, d2, d3] }
  | _ => none }
def LiveHoldsWrongFalsely : Prop := liveHoldsRow.holds Try.pinned (OpenSpec.ofChange liveHoldsWrong)

/-- 'paternosterlaw7.LiveLives': WHATEVER THE INPUT: true; the input reads as it did. -/
def liveLivesSpec : ChangeSpec := { name := "liveLives", fn := fun _ => fun
  | [d] => { results := [.lit (.bool true)], args := [d] }
  | _ => none }
def liveLivesRow : OpenClaim := { program := "ytlihiiaabfkhaaa", sum := "5eb8db31f2cf09aff704399695fac634751a15a26117dde64a9f4a7072ee23d4", func := "paternoster/paternosterlaw7.LiveLives", spec := "liveLives", apart := false }
def LiveLivesSaid : Prop := liveLivesRow.holds Try.pinned (OpenSpec.ofChange liveLivesSpec)

/-- ITS FALSE NEIGHBOUR: 'it returns false'. Refute it at one input. -/
def liveLivesWrong : ChangeSpec := { name := "liveLives", fn := fun _ => fun
  | [d] => { results := [.lit (.bool false)], args := [d] }
  | _ => none }
def LiveLivesWrongFalsely : Prop := liveLivesRow.holds Try.pinned (OpenSpec.ofChange liveLivesWrong)

/-- 'paternosterlaw7.LivePlays': WHATEVER THE INPUT: true; the input reads as it did. -/
def livePlaysSpec : ChangeSpec := { name := "livePlays", fn := fun _ => fun
  | [d1, d2] => { results := [.lit (.bool true)], args := [d1, d2] }
  | _ => none }
def livePlaysRow : OpenClaim := { program := "ytlihiiaabfkhaaa", sum := "5eb8db31f2cf09aff704399695fac634751a15a26117dde64a9f4a7072ee23d4", func := "paternoster/paternosterlaw7.LivePlays", spec := "livePlays", apart := false }
def LivePlaysSaid : Prop := livePlaysRow.holds Try.pinned (OpenSpec.ofChange livePlaysSpec)

/-- ITS FALSE NEIGHBOUR: 'it returns false'. Refute it at one input. -/
def livePlaysWrong : ChangeSpec := { name := "livePlays", fn := fun _ => fun
  | [d1, d2] => { results := [.lit (.bool false)], args := [d1, d2] }
  | _ => none }
def LivePlaysWrongFalsely : Prop := livePlaysRow.holds Try.pinned (OpenSpec.ofChange livePlaysWrong)

/- THE SECOND FORM. 'bulk': how many values and letters a reading holds, each counted each time it is reached (what is shared counts as often as it is met; a slice's spare places count too). A statement '..UptoSaid' is the law's where the arguments, and the package variables that the reading takes, are together of bulk at most 1048576: NARROWER than '..Said'. Prove '..Said' where nothing that the law and all that it calls make is longer than what came in: it says more and counts as full. Else prove '..UptoSaid'. A law counts once. -/
mutual
def uptoBulk {H : Type} : DataW H → Nat
  | .lit (.string bytes) => bytes.length + 1
  | .lit _ => 1
  | .nil => 1
  | .ptr d => uptoBulk d + 1
  | .slice elems spare => uptoBulkAll elems + uptoBulkAll spare + 1
  | .agg parts => uptoBulkAll parts + 1
  | .iface _ d => uptoBulk d + 1
  | .map entries => uptoBulkEntries entries + 1
  | .held _ => 1
def uptoBulkAll {H : Type} : List (DataW H) → Nat
  | [] => 0
  | d :: r => uptoBulk d + uptoBulkAll r
def uptoBulkEntries {H : Type} : List (Lit × DataW H) → Nat
  | [] => 0
  | x :: r => uptoBulkEntry x + uptoBulkEntries r
def uptoBulkEntry {H : Type} : Lit × DataW H → Nat
  | (.string bytes, d) => bytes.length + uptoBulk d + 1
  | (_, d) => uptoBulk d + 1
 end
def uptoSmall : (H : Type) → List (DataW H) → Bool := fun _ ds => decide (uptoBulkAll ds ≤ 1048576)
def OpenSpec.upto (s : _root_.Go.ChangeSpec) : _root_.Go.OpenSpec := { _root_.Go.OpenSpec.ofChange s with cond := some uptoSmall }

/-- 'paternosterlaw7.LiveSeen', WHERE WHAT IT READS IS OF BULK AT MOST 1048576: true; the input reads as it did. -/
def liveSeenUptoRow : OpenClaim := { program := "ytlihiiaabfkhaaa", sum := "5eb8db31f2cf09aff704399695fac634751a15a26117dde64a9f4a7072ee23d4", func := "paternoster/paternosterlaw7.LiveSeen", spec := "liveSeen", apart := false, narrowed := true }
def LiveSeenUptoSaid : Prop := liveSeenUptoRow.holds Try.pinned (OpenSpec.upto liveSeenSpec)

/-- 'paternosterlaw7.LiveHolds', WHERE WHAT IT READS IS OF BULK AT MOST 1048576: true; the input reads as it did. -/
def liveHoldsUptoRow : OpenClaim := { program := "ytlihiiaabfkhaaa", sum := "5eb8db31f2cf09aff704399695fac634751a15a26117dde64a9f4a7072ee23d4", func := "paternoster/paternosterlaw7.LiveHolds", spec := "liveHolds", apart := false, narrowed := true }
def LiveHoldsUptoSaid : Prop := liveHoldsUptoRow.holds Try.pinned (OpenSpec.upto liveHoldsSpec)

/-- 'paternosterlaw7.LiveLives', WHERE WHAT IT READS IS OF BULK AT MOST 1048576: true; the input reads as it did. -/
def liveLivesUptoRow : OpenClaim := { program := "ytlihiiaabfkhaaa", sum := "5eb8db31f2cf09aff704399695fac634751a15a26117dde64a9f4a7072ee23d4", func := "paternoster/paternosterlaw7.LiveLives", spec := "liveLives", apart := false, narrowed := true }
def LiveLivesUptoSaid : Prop := liveLivesUptoRow.holds Try.pinned (OpenSpec.upto liveLivesSpec)

/-- 'paternosterlaw7.LivePlays', WHERE WHAT IT READS IS OF BULK AT MOST 1048576: true; the input reads as it did. -/
def livePlaysUptoRow : OpenClaim := { program := "ytlihiiaabfkhaaa", sum := "5eb8db31f2cf09aff704399695fac634751a15a26117dde64a9f4a7072ee23d4", func := "paternoster/paternosterlaw7.LivePlays", spec := "livePlays", apart := false, narrowed := true }
def LivePlaysUptoSaid : Prop := livePlaysUptoRow.holds Try.pinned (OpenSpec.upto livePlaysSpec)

end Rows
end Go.Proofs.Ytlihiiaabfkhaaa
