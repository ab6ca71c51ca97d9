/- FrameSays: for every input the law returns true, and each argument reads afterwards as it read before, taking that the listed error variables hold what the program's own text lays in them (the card ties them to that text). -/
import Derived.Test.YtogcbiooddodlaaDoorRows
import Derived.Test.YtogcbiooddodlaaDoorFrameSaysWalk
import Derived.Test.YtogcbiooddodlaaDoorLaidErrs
import Derived.Test.YtogcbiooddodlaaDoorOpen
import Derived.Test.YtogcbiooddodlaaDoorFrameOpen
import Derived.Test.YtogcbiooddodlaaDoorLaidErrs
import Derived.Test.YtogcbiooddodlaaDoorTie
import Derived.Test.YtogcbiooddodlaaDoorCards
import Derived.SevenTiedAt
import Derived.ProofKit
import Derived.OpenShut
import Derived.ShutString
import Derived.ChangeOld
import Derived.Below
namespace Go.Proofs.YtogcbiooddodlaaDoor.frameSays
open Go.ChangeShapes Go.WideShapes Go.ChangeAt Go.RowKit
open Go.ChangeMaps (open_string shut_string)
set_option linter.unusedVariables false

theorem own : ownKnob Tryd.prog.godebug = none := by kernel_rfl
theorem laidOut : laidOutB Tryd.prog = true := by kernel_rfl

set_option maxRecDepth 100000 in
theorem lifted (os : Os) (started : os.Started) (H : Type) (enc : TypeId × Value → H) :
    ReturnsInHanded {} Tryd.checked os 13 .any (fun w args => (Rows.frameSaysSpec.pre enc Tryd.prog Tryd.f13 Rows.frameSaysRow.domain false w args ∧ laidMetH Tryd.prog (names13.map laidOne) w) ∧ sizedMet enc Tryd.prog Tryd.f13 (OpenSpec.ofChange Rows.frameSaysSpec) false w args) (Rows.frameSaysSpec.post enc Tryd.prog Tryd.f13 false true false false) := by
  refine returnsInHanded_of_change_and (C := Tryd.checked) (X := fun w _ => laidMetH Tryd.prog (names13.map laidOne) w) (fun _ _ _ hh h => h.of_heap hh) own started (by kernel_rfl) Tryd.func13
    (ChangeSpec.witness_shaped (enc := enc) (C := Tryd.checked) (os := os) (X := fun w _ => laidMetH Tryd.prog (names13.map laidOne) w) false (World.doorLaid Tryd.prog 256 os) #[.agg #[.int .i64 0, .int .i64 0, .int .i64 0, .int .i64 0, .int .i64 0, .bool false, .int .i64 0, .int .i64 0, .int .i64 0, .slice none 0 0, .slice none 0 0], .agg #[.int .i64 0, .int .i64 0, .int .i64 0, .int .i64 0, .int .i64 0, .bool false, .int .i64 0, .int .i64 0, .int .i64 0, .slice none 0 0, .slice none 0 0], .slice none 0 0] 8 rfl (World.shaped_of_RefB (by kernel_rfl) (by kernel_rfl)) (by kernel_rfl) (by kernel_rfl) (by kernel_rfl) (door_met13 os _)) ?_
  intro W base args ds gs before hval0 hW hcnd _ hL _
  have hval : ∀ (j : Nat) t v, Tryd.f13.params[j]? = some t → args[j]? = some v → Value.okWide Tryd.prog W .any base t v := hval0
  have hW' := hW
  obtain ⟨p, q, hA0, hV, rfl, hfz, hnd⟩ := hW
  have hA : DataW.TrodAll enc Tryd.prog W 0 (fun _ => true) true Tryd.f13.params.toList args.toList ds p := hA0
  rw [Tryd.params13] at hA hval
  obtain ⟨v0, vs0, d0, ds0, p0, q0, hargs, rfl, rfl, h0, r0⟩ := trodAll_cons hA
  obtain ⟨v1, vs1, d1, ds1, p1, q1, rfl, rfl, rfl, h1, r1⟩ := trodAll_cons r0
  obtain ⟨v2, vs2, d2, ds2, p2, q2, rfl, rfl, rfl, h2, r2⟩ := trodAll_cons r1
  obtain ⟨rfl, rfl, rfl⟩ := trodAll_nil r2
  obtain rfl : args = #[v0, v1, v2] := by cases args; simp_all
  obtain ⟨rfl, rfl⟩ := trodVars_none hV
  have k0 := h0
  have lt0 : ∀ x ∈ p0, x.block < W.heap.size := by obtain ⟨m, hm⟩ := k0; exact DataW.trod_lt m _ _ _ hm
  have k1 := h1
  have lt1 : ∀ x ∈ p1, x.block < W.heap.size := by obtain ⟨m, hm⟩ := k1; exact DataW.trod_lt m _ _ _ hm
  have k2 := h2
  have lt2 : ∀ x ∈ p2, x.block < W.heap.size := by obtain ⟨m, hm⟩ := k2; exact DataW.trod_lt m _ _ _ hm
  obtain ⟨cs0, rfl, _⟩ := okWide_struct Tryd.underlying64 (hval 0 64 v0 rfl rfl)
  obtain ⟨fuel0, hf0⟩ := h0
  obtain ⟨f0, hcs0, hok0⟩ := open_frame fuel0 _ _ hf0
  obtain rfl : cs0 = frameV f0.kind f0.fr f0.tt f0.life f0.seen f0.out f0.count f0.founder f0.hop f0.MA f0.ms.length f0.mc f0.EA f0.es.length f0.ec := by cases cs0; simpa [Value.cells] using hcs0
  obtain ⟨cs1, rfl, _⟩ := okWide_struct Tryd.underlying64 (hval 1 64 v1 rfl rfl)
  obtain ⟨fuel1, hf1⟩ := h1
  obtain ⟨f1, hcs1, hok1⟩ := open_frame fuel1 _ _ hf1
  obtain rfl : cs1 = frameV f1.kind f1.fr f1.tt f1.life f1.seen f1.out f1.count f1.founder f1.hop f1.MA f1.ms.length f1.mc f1.EA f1.es.length f1.ec := by cases cs1; simpa [Value.cells] using hcs1
  obtain ⟨A2, n2, c2, rfl⟩ := okWide_slice Tryd.underlying23 (hval 2 23 v2 rfl rfl)
  obtain ⟨xs2, hn2, hs2, hl2, hz2, hwf2⟩ : ∃ xs : List Int, n2 = xs.length ∧ Sl W A2 (xs.map (Value.int .u8)) ∧ xs.length ≤ maxLen ∧ (A2 = none → c2 = 0) ∧ ∀ n ∈ xs, (Lit.int .u8 n).wf = true := by
    obtain ⟨fuel, hf⟩ := h2
    rcases open_ints Tryd.underlying23 Tryd.underlying5 (by kernel_rfl) hf with ⟨hcs, _⟩ | ⟨x, l, c, zs, hcs, _, hl, hm, hz, _, hcell, hwz⟩
    · simp [Value.cells] at hcs
      obtain ⟨rfl, rfl, rfl⟩ := hcs
      exact ⟨[], rfl, .inl rfl, Nat.zero_le _, (fun _ => rfl), fun n h => by cases h⟩
    · simp [Value.cells] at hcs
      obtain ⟨rfl, rfl, rfl⟩ := hcs
      have hz' : zs.length = c2 := by simpa using hz
      exact ⟨zs.take n2, by simp; omega, sl_of_bytes (by omega) hcell, by simp; omega, (fun h => by cases h), fun n h => hwz n (List.mem_of_mem_take h)⟩
  subst hn2
  obtain ⟨ad, hE⟩ := errs_of_laid (laid_plain13 hL)
  clear hA0 hval0
  refine (frameSays_walk f0 f1 A2 c2 xs2 W hok0 hok1 hs2 (by unfold maxLen at hl2; omega) (isb_of hwf2) hE).mono fun e W' ⟨he, bel⟩ => ?_
  subst he
  exact ⟨_, rfl, _, _, _, [], _, [], hW', trodAll_mk1 (shut_bool Tryd.underlying4 _), (trodAll_cons_mk (Below.trod laidOut (by kernel_rfl) (of_decide_eq_true (by kernel_rfl)) k0 bel lt0) (trodAll_cons_mk (Below.trod laidOut (by kernel_rfl) (of_decide_eq_true (by kernel_rfl)) k1 bel lt1) (trodAll_cons_mk (Below.trod laidOut (by kernel_rfl) (of_decide_eq_true (by kernel_rfl)) k2 bel lt2) trodAll_mk0))), rfl, bel.frame _, fun h => by cases h⟩

theorem over : Rows.frameSaysRow.holds Tryd.pinned (OpenSpec.ofChange Rows.frameSaysSpec) :=
  OpenClaim.holds_of_wide 13 Tryd.f13 rfl rfl rfl rfl rfl rfl rfl ⟨rfl, rfl, rfl, rfl, rfl⟩ rfl rfl rfl rfl rfl (by kernel_rfl) Tryd.func13 (by kernel_rfl)
    (of_decide_eq_true (by kernel_rfl)) (by unfold Func.isWrapper; first | (rw [if_pos (by decide +kernel)]; kernel_rfl) | (rw [if_neg (by decide +kernel)]; exact ⟨rfl, rfl⟩))
    (fun os started H enc _ => lifted os started H enc)

set_option maxRecDepth 100000 in
/-- The statement: the tied card. -/
theorem proved : Rows.FrameSaysCardSaid :=
  Claim7.holds_tied_plain_at .later [] [.sentinel, .sentinel, .sentinel, .sentinel, .sentinel, .sentinel, .sentinel, .sentinel, .sentinel, .sentinel, .sentinel, .sentinel, .sentinel] true (true, "3264ea4107dcfffe17eb2b563e854d840980101bd50ddc0c3d4395d0d5057e49") true
    over (fun _ h => by cases h) (by kernel_rfl) (fun _ h => by cases h) frameSays_row_tie rfl ⟨rfl, rfl⟩ (by kernel_rfl) rfl
    (fun f fn hf hfn => by
      obtain rfl : f = 13 := Option.some.inj ((show Tryd.prog.funcNamed "paternoster/paternosterlaw5.FrameSays" = some 13 by kernel_rfl).symm.trans hf) |>.symm
      obtain rfl : fn = Tryd.f13 := (Option.some.inj (Tryd.func13.symm.trans hfn)).symm
      exact ⟨by kernel_rfl, fun j t ht => by
        rw [Tryd.params13] at ht
        have hm : t ∈ [64, 64, 23] := by simpa using Array.mem_of_getElem? ht
        have hall : ([64, 64, 23].all fun u => !Tryd.prog.wantsStandIn u) = true := by kernel_rfl
        exact (show Tryd.prog.wantsStandIn t = false by simpa using List.all_eq_true.1 hall t hm)⟩)
    (by kernel_rfl)
#print axioms proved
end Go.Proofs.YtogcbiooddodlaaDoor.frameSays
