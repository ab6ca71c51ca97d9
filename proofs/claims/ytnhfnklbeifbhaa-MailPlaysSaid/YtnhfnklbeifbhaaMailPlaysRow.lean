/- MailPlays: for every input the law returns true, and each argument reads afterwards as it read before; no condition. -/
import Derived.Test.YtnhfnklbeifbhaaRows
import Derived.Test.YtnhfnklbeifbhaaMailPlaysWalk
import Derived.ProofKit
import Derived.OpenShut
import Derived.ShutString
import Derived.ChangeOld
import Derived.Below
namespace Go.Proofs.Ytnhfnklbeifbhaa.mailPlays
open Go.ChangeShapes Go.WideShapes Go.ChangeAt Go.RowKit
open Go.ChangeMaps (open_string shut_string)
set_option linter.unusedVariables false

theorem own : ownKnob Try.prog.godebug = none := by kernel_rfl
theorem laidOut : laidOutB Try.prog = true := by kernel_rfl

set_option maxRecDepth 100000 in
theorem lifted (os : Os) (started : os.Started) (H : Type) (enc : TypeId × Value → H) :
    ReturnsInHanded {} Try.checked os 6 .any (Rows.mailPlaysSpec.pre6 enc Try.prog Try.f6 Rows.mailPlaysRow.domain false) (Rows.mailPlaysSpec.post enc Try.prog Try.f6 false true false false) := by
  refine returnsInHanded_of_change (C := Try.checked) own started (by kernel_rfl) Try.func6
    (ChangeSpec.witness6 (enc := enc) (C := Try.checked) false ⟨#[], #[.slice none 0 0], []⟩ 8 (by kernel_rfl) (by kernel_rfl) (by kernel_rfl) (by kernel_rfl)) ?_
  intro W base args ds gs before hval0 hW hcnd _
  have hval : ∀ (j : Nat) t v, Try.f6.params[j]? = some t → args[j]? = some v → Value.okWide Try.prog W .any base t v := hval0
  have hW' := hW
  obtain ⟨p, q, hA0, hV, rfl, hfz, hnd⟩ := hW
  have hA : DataW.TrodAll enc Try.prog W 0 (fun _ => true) true Try.f6.params.toList args.toList ds p := hA0
  rw [Try.params6] at hA hval
  obtain ⟨v0, vs0, d0, ds0, p0, q0, hargs, rfl, rfl, h0, r0⟩ := trodAll_cons hA
  obtain ⟨rfl, rfl, rfl⟩ := trodAll_nil r0
  obtain rfl : args = #[v0] := by cases args; simp_all
  obtain ⟨rfl, rfl⟩ := trodVars_none hV
  have k0 := h0
  have lt0 : ∀ x ∈ p0, x.block < W.heap.size := by obtain ⟨m, hm⟩ := k0; exact DataW.trod_lt m _ _ _ hm
  obtain ⟨A0, n0, c0, ds, rfl, hn0, hl0, hs0, hg0⟩ : ∃ (A : Option Addr) (n c : Nat) (ds : List MDo), v0 = .slice A n c ∧ n = ds.length ∧ ds.length ≤ maxLen ∧ Sl W A (ds.flatMap MDo.cells) ∧ ∀ d ∈ ds, d.ok W := by
    obtain ⟨A, n, c, rfl⟩ := okWide_slice Try.underlying39 (hval 0 39 v0 rfl rfl)
    obtain ⟨fuel, hf⟩ := h0
    obtain ⟨A', n', c', ds, hcs, hn, hnc, hcm, hs, hg⟩ := open_rows Try.underlying39 MDo.cells (MDo.ok W) 4 (by decide) MDo.len cells_mdo open_mdo hf
    simp [Value.cells] at hcs
    obtain ⟨rfl, rfl, rfl⟩ := hcs
    exact ⟨A, n, c, ds, rfl, hn, by omega, hs, hg⟩
  subst hn0
  clear hA0 hval0
  refine (mailPlays_walk A0 c0 ds W hs0 hg0 (by unfold maxLen at hl0; omega)).mono fun e W' ⟨he, bel⟩ => ?_
  subst he
  exact ⟨_, rfl, _, _, _, [], _, [], hW', trodAll_mk1 (shut_bool Try.underlying4 _), (trodAll_cons_mk (Below.trod laidOut (by kernel_rfl) (of_decide_eq_true (by kernel_rfl)) k0 bel lt0) trodAll_mk0), rfl, bel.frame _, fun h => by cases h⟩

theorem over : Rows.mailPlaysRow.holds Try.pinned (OpenSpec.ofChange Rows.mailPlaysSpec) :=
  OpenClaim.holds_of_wide 6 Try.f6 rfl rfl rfl rfl rfl rfl rfl ⟨rfl, rfl, rfl, rfl, rfl⟩ rfl rfl rfl rfl rfl (by kernel_rfl) Try.func6 (by kernel_rfl)
    (of_decide_eq_true (by kernel_rfl)) (by unfold Func.isWrapper; first | (rw [if_pos (by decide +kernel)]; kernel_rfl) | (rw [if_neg (by decide +kernel)]; exact ⟨rfl, rfl⟩))
    (fun os started H enc _ => lifted os started H enc)

/-- The statement. -/
theorem proved : Rows.MailPlaysSaid := over
#print axioms proved
end Go.Proofs.Ytnhfnklbeifbhaa.mailPlays
