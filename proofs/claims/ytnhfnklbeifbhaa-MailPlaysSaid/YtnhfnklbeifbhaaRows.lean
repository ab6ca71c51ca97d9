/-
  No cell of these rows narrows 'for every input' (looked for: loops, veiled, ifaces, maps, wideKeys, modest, calm, conditions, laid).
  DERIVED. THE GIVEN ROWS OF THIS SEAT. 4 by the template 'for every input the law returns true; each argument reads behind the call as it read before'; 0 by the template 'total and deterministic' (their statements: YtnhfnklbeifbhaaTotals.lean).
  GIVEN WITH THE SEED: the statements are not yours to turn. If you find one false, say at which input.
  Laid BY PROGRAM, IN A SANDBOX (cutbox-rows.mjs): the forced cells as the released guide's own fill.sh prints them over the translation 6a020235883f4ba5… (all of the seat's roots in one cut). By AI agents, Wed Nov 11 2026. No macro, syntax, notation, axiom, sorry.
-/
import Derived.Test.YtnhfnklbeifbhaaChecked
import GoSem.Claim
import GoSem.ClaimJoined
import GoSem.ClaimMapViews
import Derived.JoinedTies
import Derived.KernelRfl
namespace Go.Proofs.Ytnhfnklbeifbhaa
/- THE CELL 'sum', in the pinned program and in every row, IS THE sha256 OF THE DUMP (.gsa) THAT YtnhfnklbeifbhaaProg.lean LOADS. Nothing in Lean hashes anything: it is a label: what it is worth is what the hold of that sum in a sandbox is worth. -/
noncomputable def Try.pinned : Pinned := { name := "ytnhfnklbeifbhaa", sum := "6a020235883f4ba5b64c0a945c9649fad0207679d55ff61da256c32e03629338", checked := Try.checked }
namespace Rows
def none {H : Type} : Left H := { results := [], args := [] }

/-- 'paternosterlaw6.MailCopies': WHATEVER THE INPUT: true; the input reads as it did. -/
def mailCopiesSpec : ChangeSpec := { name := "mailCopies", fn := fun _ => fun
  | [d1, d2, d3] => { results := [.lit (.bool true)], args := [d1, d2, d3] }
  | _ => none }
def mailCopiesRow : OpenClaim := { program := "ytnhfnklbeifbhaa", sum := "6a020235883f4ba5b64c0a945c9649fad0207679d55ff61da256c32e03629338", func := "paternoster/paternosterlaw6.MailCopies", spec := "mailCopies", apart := false }
def MailCopiesSaid : Prop := mailCopiesRow.holds Try.pinned (OpenSpec.ofChange mailCopiesSpec)

/-- ITS FALSE NEIGHBOUR: 'it returns false'. Refute it at one input. -/
def mailCopiesWrong : ChangeSpec := { name := "mailCopies", fn := fun _ => fun
  | [d1, d2, d3] => { results := [.lit (.bool false)], args := [d1, d2, d3] }
  | _ => none }
def MailCopiesWrongFalsely : Prop := mailCopiesRow.holds Try.pinned (OpenSpec.ofChange mailCopiesWrong)

/-- 'paternosterlaw6.MailFull': WHATEVER THE INPUT: true; the input reads as it did. -/
def mailFullSpec : ChangeSpec := { name := "mailFull", fn := fun _ => fun
  | [d1, d2] => { results := [.lit (.bool true)], args := [d1, d2] }
  | _ => none }
def mailFullRow : OpenClaim := { program := "ytnhfnklbeifbhaa", sum := "6a020235883f4ba5b64c0a945c9649fad0207679d55ff61da256c32e03629338", func := "paternoster/paternosterlaw6.MailFull", spec := "mailFull", apart := false }
def MailFullSaid : Prop := mailFullRow.holds Try.pinned (OpenSpec.ofChange mailFullSpec)

/-- ITS FALSE NEIGHBOUR: 'it returns false'. Refute it at one input. -/
def mailFullWrong : ChangeSpec := { name := "mailFull", fn := fun _ => fun
  | [d1, d2] => { results := [.lit (.bool false)], args := [d1, d2] }
  | _ => none }
def MailFullWrongFalsely : Prop := mailFullRow.holds Try.pinned (OpenSpec.ofChange mailFullWrong)

/-- 'paternosterlaw6.MailOrder': WHATEVER THE INPUT: true; the input reads as it did. -/
def mailOrderSpec : ChangeSpec := { name := "mailOrder", fn := fun _ => fun
  | [d1, d2, d3] => { results := [.lit (.bool true)], args := [d1, d2, d3] }
  | _ => none }
def mailOrderRow : OpenClaim := { program := "ytnhfnklbeifbhaa", sum := "6a020235883f4ba5b64c0a945c9649fad0207679d55ff61da256c32e03629338", func := "paternoster/paternosterlaw6.MailOrder", spec := "mailOrder", apart := false }
def MailOrderSaid : Prop := mailOrderRow.holds Try.pinned (OpenSpec.ofChange mailOrderSpec)

/-- ITS FALSE NEIGHBOUR: 'it returns false'. Refute it at one input. -/
def mailOrderWrong : ChangeSpec := { name := "mailOrder", fn := fun _ => fun
  | [d1, d2, d3] => { results := [.lit (.bool false)], args := [d1, d2, d3] }
  | _ => none }
def MailOrderWrongFalsely : Prop := mailOrderRow.holds Try.pinned (OpenSpec.ofChange mailOrderWrong)

/-- 'paternosterlaw6.MailPlays': WHATEVER THE INPUT: true; the input reads as it did. -/
def mailPlaysSpec : ChangeSpec := { name := "mailPlays", fn := fun _ => fun
  | [d] => { results := [.lit (.bool true)], args := [d] }
  | _ => none }
def mailPlaysRow : OpenClaim := { program := "ytnhfnklbeifbhaa", sum := "6a020235883f4ba5b64c0a945c9649fad0207679d55ff61da256c32e03629338", func := "paternoster/paternosterlaw6.MailPlays", spec := "mailPlays", apart := false }
def MailPlaysSaid : Prop := mailPlaysRow.holds Try.pinned (OpenSpec.ofChange mailPlaysSpec)

/-- ITS FALSE NEIGHBOUR: 'it returns false'. Refute it at one input. -/
def mailPlaysWrong : ChangeSpec := { name := "mailPlays", fn := fun _ => fun
  | [d] => { results := [.lit (.bool false)], args := [d] }
  | _ => none }
def MailPlaysWrongFalsely : Prop := mailPlaysRow.holds Try.pinned (OpenSpec.ofChange mailPlaysWrong)

/- THE SECOND FORM. 'bulk': how many values and letters a reading holds, each counted each time it is reached (what is shared counts as often as it is met; a slice's spare places count too). A statement '..UptoSaid' is the law's where the arguments, and the package variables that the reading takes, are together of bulk at most 1048576: NARROWER than '..Said'. Prove '..Said' where nothing that the law and all that it calls make is longer than what came in: it says more and counts as full. Else prove '..UptoSaid'. A law counts once. -/
mutual
def uptoBulk {H : Type} : DataW H → Nat
  | .lit (.string bytes) => bytes.length + 1
  | .lit _ => 1
  | .nil => 1
  | .ptr d => uptoBulk d + 1
  | .slice elems spare => uptoBulkAll elems + uptoBulkAll spare + 1
  | .agg parts => uptoBulkAll parts + 1
  | .iface _ d => uptoBulk d + 1
  | .map entries => uptoBulkEntries entries + 1
  | .held _ => 1
def uptoBulkAll {H : Type} : List (DataW H) → Nat
  | [] => 0
  | d :: r => uptoBulk d + uptoBulkAll r
def uptoBulkEntries {H : Type} : List (Lit × DataW H) → Nat
  | [] => 0
  | x :: r => uptoBulkEntry x + uptoBulkEntries r
def uptoBulkEntry {H : Type} : Lit × DataW H → Nat
  | (.string bytes, d) => bytes.length + uptoBulk d + 1
  | (_, d) => uptoBulk d + 1
 end
def uptoSmall : (H : Type) → List (DataW H) → Bool := fun _ ds => decide (uptoBulkAll ds ≤ 1048576)
def OpenSpec.upto (s : _root_.Go.ChangeSpec) : _root_.Go.OpenSpec := { _root_.Go.OpenSpec.ofChange s with cond := some uptoSmall }

/-- 'paternosterlaw6.MailCopies', WHERE WHAT IT READS IS OF BULK AT MOST 1048576: true; the input reads as it did. -/
def mailCopiesUptoRow : OpenClaim := { program := "ytnhfnklbeifbhaa", sum := "6a020235883f4ba5b64c0a945c9649fad0207679d55ff61da256c32e03629338", func := "paternoster/paternosterlaw6.MailCopies", spec := "mailCopies", apart := false, narrowed := true }
def MailCopiesUptoSaid : Prop := mailCopiesUptoRow.holds Try.pinned (OpenSpec.upto mailCopiesSpec)

/-- 'paternosterlaw6.MailFull', WHERE WHAT IT READS IS OF BULK AT MOST 1048576: true; the input reads as it did. -/
def mailFullUptoRow : OpenClaim := { program := "ytnhfnklbeifbhaa", sum := "6a020235883f4ba5b64c0a945c9649fad0207679d55ff61da256c32e03629338", func := "paternoster/paternosterlaw6.MailFull", spec := "mailFull", apart := false, narrowed := true }
def MailFullUptoSaid : Prop := mailFullUptoRow.holds Try.pinned (OpenSpec.upto mailFullSpec)

/-- 'paternosterlaw6.MailOrder', WHERE WHAT IT READS IS OF BULK AT MOST 1048576: true; the input reads as it did. -/
def mailOrderUptoRow : OpenClaim := { program := "ytnhfnklbeifbhaa", sum := "6a020235883f4ba5b64c0a945c9649fad0207679d55ff61da256c32e03629338", func := "paternoster/paternosterlaw6.MailOrder", spec := "mailOrder", apart := false, narrowed := true }
def MailOrderUptoSaid : Prop := mailOrderUptoRow.holds Try.pinned (OpenSpec.upto mailOrderSpec)

/-- 'paternosterlaw6.MailPlays', WHERE WHAT IT READS IS OF BULK AT MOST 1048576: true; the input reads as it did. -/
def mailPlaysUptoRow : OpenClaim := { program := "ytnhfnklbeifbhaa", sum := "6a020235883f4ba5b64c0a945c9649fad0207679d55ff61da256c32e03629338", func := "paternoster/paternosterlaw6.MailPlays", spec := "mailPlays", apart := false, narrowed := true }
def MailPlaysUptoSaid : Prop := mailPlaysUptoRow.holds Try.pinned (OpenSpec.upto mailPlaysSpec)

end Rows
end Go.Proofs.Ytnhfnklbeifbhaa
