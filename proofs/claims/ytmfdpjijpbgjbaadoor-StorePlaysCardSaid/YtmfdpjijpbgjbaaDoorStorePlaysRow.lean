/- StorePlays: for every input the law returns true, and each argument reads afterwards as it read before, taking that the listed error variables hold what the program's own text lays in them (the card ties them to that text). -/
import Derived.Test.YtmfdpjijpbgjbaaDoorRows
import Derived.Test.YtmfdpjijpbgjbaaDoorStoreOpenArg
import Derived.Test.YtmfdpjijpbgjbaaDoorSlBytes
import Derived.Test.YtmfdpjijpbgjbaaDoorLaidErrs
import Derived.Test.YtmfdpjijpbgjbaaDoorTie
import Derived.Test.YtmfdpjijpbgjbaaDoorCards
import Derived.SevenTiedAt
import Derived.ProofKit
import Derived.OpenShut
import Derived.ShutString
import Derived.ChangeOld
import Derived.Below
namespace Go.Proofs.YtmfdpjijpbgjbaaDoor.storePlays
open Go.ChangeShapes Go.WideShapes Go.ChangeAt Go.RowKit
open Go.ChangeMaps (open_string shut_string)
set_option linter.unusedVariables false

theorem own : ownKnob Tryd.prog.godebug = none := by kernel_rfl
theorem laidOut : laidOutB Tryd.prog = true := by kernel_rfl

set_option maxRecDepth 100000 in
theorem lifted (os : Os) (started : os.Started) (H : Type) (enc : TypeId × Value → H) :
    ReturnsInHanded {} Tryd.checked os 6 .any (fun w args => (Rows.storePlaysSpec.pre enc Tryd.prog Tryd.f6 Rows.storePlaysRow.domain false w args ∧ laidMetH Tryd.prog (names13.map laidOne) w) ∧ sizedMet enc Tryd.prog Tryd.f6 (OpenSpec.ofChange Rows.storePlaysSpec) false w args) (Rows.storePlaysSpec.post enc Tryd.prog Tryd.f6 false true false false) := by
  refine returnsInHanded_of_change_and (C := Tryd.checked) (X := fun w _ => laidMetH Tryd.prog (names13.map laidOne) w) (fun _ _ _ hh h => h.of_heap hh) own started (by kernel_rfl) Tryd.func6
    (ChangeSpec.witness_shaped (enc := enc) (C := Tryd.checked) (os := os) (X := fun w _ => laidMetH Tryd.prog (names13.map laidOne) w) false (World.doorLaid Tryd.prog 256 os) #[.slice none 0 0, .slice none 0 0] 8 rfl (World.shaped_of_RefB (by kernel_rfl) (by kernel_rfl)) (by kernel_rfl) (by kernel_rfl) (by kernel_rfl) (door_met13 os _)) ?_
  intro W base args ds gs before hval0 hW hcnd _ hL _
  have hval : ∀ (j : Nat) t v, Tryd.f6.params[j]? = some t → args[j]? = some v → Value.okWide Tryd.prog W .any base t v := hval0
  have hW' := hW
  obtain ⟨p, q, hA0, hV, rfl, hfz, hnd⟩ := hW
  have hA : DataW.TrodAll enc Tryd.prog W 0 (fun _ => true) true Tryd.f6.params.toList args.toList ds p := hA0
  rw [Tryd.params6] at hA hval
  obtain ⟨v0, vs0, d0, ds0, p0, q0, hargs, rfl, rfl, h0, r0⟩ := trodAll_cons hA
  obtain ⟨v1, vs1, d1, ds1, p1, q1, rfl, rfl, rfl, h1, r1⟩ := trodAll_cons r0
  obtain ⟨rfl, rfl, rfl⟩ := trodAll_nil r1
  obtain rfl : args = #[v0, v1] := by cases args; simp_all
  obtain ⟨rfl, rfl⟩ := trodVars_none hV
  have k0 := h0
  have lt0 : ∀ x ∈ p0, x.block < W.heap.size := by obtain ⟨m, hm⟩ := k0; exact DataW.trod_lt m _ _ _ hm
  have k1 := h1
  have lt1 : ∀ x ∈ p1, x.block < W.heap.size := by obtain ⟨m, hm⟩ := k1; exact DataW.trod_lt m _ _ _ hm
  obtain ⟨A0, n0, c0, ds0, rfl, hn0, hl0, hs0⟩ : ∃ (A : Option Addr) (n c : Nat) (ds : List (Int × Int)), v0 = .slice A n c ∧ n = ds.length ∧ ds.length ≤ maxLen ∧ Sl W A (ds.flatMap recC) := by
    obtain ⟨A, n, c, rfl⟩ := okWide_slice Tryd.underlying50 (hval 0 50 v0 rfl rfl)
    obtain ⟨fuel, hf⟩ := h0
    obtain ⟨A', n', c', ds, hcs, hn, hnc, hcm, hs, hg⟩ := open_rows Tryd.underlying50 recC (fun _ => True) 2 (by decide) recC_len cells_rec open_rec hf
    simp [Value.cells] at hcs
    obtain ⟨rfl, rfl, rfl⟩ := hcs
    exact ⟨A, n, c, ds, rfl, hn, by omega, hs⟩
  subst hn0
  obtain ⟨A1, n1, c1, rfl⟩ := okWide_slice Tryd.underlying41 (hval 1 41 v1 rfl rfl)
  obtain ⟨xs1, hn1, hs1, hl1, hz1, hwf1⟩ : ∃ xs : List Int, n1 = xs.length ∧ Sl W A1 (xs.map (Value.int .u8)) ∧ xs.length ≤ maxLen ∧ (A1 = none → c1 = 0) ∧ ∀ n ∈ xs, (Lit.int .u8 n).wf = true := by
    obtain ⟨fuel, hf⟩ := h1
    rcases open_ints Tryd.underlying41 Tryd.underlying5 (by kernel_rfl) hf with ⟨hcs, _⟩ | ⟨x, l, c, zs, hcs, _, hl, hm, hz, _, hcell, hwz⟩
    · simp [Value.cells] at hcs
      obtain ⟨rfl, rfl, rfl⟩ := hcs
      exact ⟨[], rfl, .inl rfl, Nat.zero_le _, (fun _ => rfl), fun n h => by cases h⟩
    · simp [Value.cells] at hcs
      obtain ⟨rfl, rfl, rfl⟩ := hcs
      have hz' : zs.length = c1 := by simpa using hz
      exact ⟨zs.take n1, by simp; omega, sl_of_bytes (by omega) hcell, by simp; omega, (fun h => by cases h), fun n h => hwz n (List.mem_of_mem_take h)⟩
  subst hn1
  obtain ⟨ad, hE⟩ := errs_of_laid (laid_plain13 hL)
  clear hA0 hval0
  refine (storePlays_walk A0 A1 c0 c1 ds0 xs1 W hs0 hs1 (bytes_of hwf1) hE).mono fun e W' ⟨he, bel⟩ => ?_
  subst he
  exact ⟨_, rfl, _, _, _, [], _, [], hW', trodAll_mk1 (shut_bool Tryd.underlying4 _), (trodAll_cons_mk (Below.trod laidOut (by kernel_rfl) (of_decide_eq_true (by kernel_rfl)) k0 bel lt0) (trodAll_cons_mk (Below.trod laidOut (by kernel_rfl) (of_decide_eq_true (by kernel_rfl)) k1 bel lt1) trodAll_mk0)), rfl, bel.frame _, fun h => by cases h⟩

theorem over : Rows.storePlaysRow.holds Tryd.pinned (OpenSpec.ofChange Rows.storePlaysSpec) :=
  OpenClaim.holds_of_wide 6 Tryd.f6 rfl rfl rfl rfl rfl rfl rfl ⟨rfl, rfl, rfl, rfl, rfl⟩ rfl rfl rfl rfl rfl (by kernel_rfl) Tryd.func6 (by kernel_rfl)
    (of_decide_eq_true (by kernel_rfl)) (by unfold Func.isWrapper; first | (rw [if_pos (by decide +kernel)]; kernel_rfl) | (rw [if_neg (by decide +kernel)]; exact ⟨rfl, rfl⟩))
    (fun os started H enc _ => lifted os started H enc)

set_option maxRecDepth 100000 in
/-- The statement: the tied card. -/
theorem proved : Rows.StorePlaysCardSaid :=
  Claim7.holds_tied_plain_at .later [] [.sentinel, .sentinel, .sentinel, .sentinel, .sentinel, .sentinel, .sentinel, .sentinel, .sentinel, .sentinel, .sentinel, .sentinel, .sentinel] true (true, "4f1082f0bca01724e6ebe6b4669b59e0c8be9c12850311124ffc3e2d2c7320b9") true
    over (fun _ h => by cases h) (by kernel_rfl) (fun _ h => by cases h) storePlays_row_tie rfl ⟨rfl, rfl⟩ (by kernel_rfl) rfl
    (fun f fn hf hfn => by
      obtain rfl : f = 6 := Option.some.inj ((show Tryd.prog.funcNamed "paternoster/paternosterlaw3.StorePlays" = some 6 by kernel_rfl).symm.trans hf) |>.symm
      obtain rfl : fn = Tryd.f6 := (Option.some.inj (Tryd.func6.symm.trans hfn)).symm
      exact ⟨by kernel_rfl, fun j t ht => by
        rw [Tryd.params6] at ht
        have hm : t ∈ [50, 41] := by simpa using Array.mem_of_getElem? ht
        have hall : ([50, 41].all fun u => !Tryd.prog.wantsStandIn u) = true := by kernel_rfl
        exact (show Tryd.prog.wantsStandIn t = false by simpa using List.all_eq_true.1 hall t hm)⟩)
    (by kernel_rfl)
#print axioms proved
end Go.Proofs.YtmfdpjijpbgjbaaDoor.storePlays
