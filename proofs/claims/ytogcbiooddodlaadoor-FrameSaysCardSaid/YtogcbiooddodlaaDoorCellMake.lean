/- The library's copy of bytes. -/
import Derived.Test.YtogcbiooddodlaaDoorRows
import Derived.Test.YtogcbiooddodlaaDoorRegions
import Derived.Test.YtogcbiooddodlaaDoorRefInts
import Derived.Lib.SliceRun
namespace Go.Proofs.YtogcbiooddodlaaDoor
open Go.RowKit
set_option linter.unusedSimpArgs false

theorem rowBytes : RowT Tryd.prog 23 5 (.int .u8 0) 1 1 := ⟨Tryd.underlying23, by kernel_rfl, rfl, by decide⟩

/-- A row of its own, of just these bytes. -/
def GivesBytes (w : World) (n : Nat) (xs : List Int) (e : Ending) (w' : World) : Prop := ∃ v, e = .returned v ∧ w'.ownsRow w.heap.size 5 1 v n (xs.map (Value.int .u8)) ∧ Below w.heap.size w w'

set_option maxRecDepth 100000 in
set_option maxHeartbeats 800000 in
theorem clone_bytes (A : Option Addr) (c : Nat) (xs : List Int) (w : World) (hs : Sl w A (xs.map (Value.int .u8))) (hl : xs.length ≤ 1000000) :
    Calls Tryd.prog 44 #[.slice A xs.length c] w (GivesBytes w xs.length xs) := by
  obtain ⟨n, hn⟩ : ∃ n, n = xs.length := ⟨_, rfl⟩
  rw [← hn] at hl ⊢
  have HN := hid hn
  clear hn
  have hnil := fun w => Lib.run_eql_slice_nil (P := Tryd.prog) w 23 5 A n c 0 0 Tryd.underlying23
  cases A with
  | none =>
    have h0 : xs = [] := by
      rcases hs with h | ⟨b, o, h, _⟩
      · simpa using h
      · cases h
    subst h0
    have h0 : n = 0 := HN.out
    subst h0
    clear hs HN
    go_enter Tryd.func44, Tryd.ntmps44
    go_wp2_with fail
    go_ret
    exact ⟨_, rfl, World.ownsRow_nil _ _ _ _, Below.refl _ _⟩
  | some a =>
    have hnews : ∀ j u, (xs.map (Value.int .u8))[j]? = some u → (w.alloc (.cells #[] 5)).cell? (a.add j) = some u := by
      intro j u hu
      have hlt : j < (xs.map (Value.int .u8)).length := (List.getElem?_eq_some_iff.1 hu).1
      obtain ⟨b, o, hA, hb, hc⟩ := hs.at (by omega)
      cases hA
      have e1 : (⟨b, o, none⟩ : Addr).add j = ⟨b, o + j, none⟩ := add_at b o j
      rw [e1, World.cell?_alloc_lt w _ _ hb, hc j hlt, hu]
    have hown : (w.alloc (.cells #[] 5)).ownsRow w.heap.size 5 1 (.slice (some ⟨w.heap.size, 0, none⟩) 0 0) 0 [] := World.ownsRow_made w #[] 0 (Nat.le_refl _) (Nat.zero_le _) rfl
    obtain ⟨i, hi, hz, hsz, hby⟩ := info_parts rowBytes.info
    have h1 : ∀ u ∈ xs.map (Value.int .u8), u.oneCell' = true := ints_oneCell .u8 xs
    have HH := hid (And.intro hnews (And.intro hown h1))
    have HI := hid (And.intro hi (And.intro hz (And.intro hsz hby)))
    have hm : 0 + n ≤ maxLen := by unfold maxLen; omega
    have hby2 : (0 + n) * 1 ≤ 140737488355328 := by omega
    have HM := hid (And.intro hm hby2)
    clear hnews hown hi hz hsz hby hs h1 hm hby2
    go_enter Tryd.func44, Tryd.ntmps44
    go_wp2_with (at_builtin; refine wpList_append_own _ rfl _ _ 23 rfl w.heap.size 5 i (.int .u8 0) 1 1 Tryd.underlying23 HI.out.1 HI.out.2.1 HI.out.2.2.1 HI.out.2.2.2 rfl (by decide) _ 0 [] rfl HH.out.2.1 a n c _ rfl (by rw [List.length_map, Nat.mul_one]; exact HN.out.symm) HH.out.1 HH.out.2.2 HM.out.1 HM.out.2 (by simp) ?_; intro v w1 hown1 hg _)
    go_ret
    rw [Nat.zero_add, List.nil_append] at hown1
    exact ⟨_, rfl, hown1, ⟨hg.os, hg.tape, hg.output, Nat.le_trans (by simp) hg.size, fun k hk => (hg.block k (by simp; omega) (fun e => by have e2 : k = w.heap.size := Option.some.inj e; omega)).trans (Below.heap_alloc _ _ _ hk)⟩⟩
end Go.Proofs.YtogcbiooddodlaaDoor
