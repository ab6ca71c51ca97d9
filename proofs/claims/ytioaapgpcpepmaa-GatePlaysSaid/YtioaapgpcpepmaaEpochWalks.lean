/- Epochs: which may be, which is ahead; the Go text and the document's text alike. -/
import Derived.Test.YtioaapgpcpepmaaRows
import Derived.Test.YtioaapgpcpepmaaLib
namespace Go.Proofs.Ytioaapgpcpepmaa
open Go.RowKit
set_option linter.unusedSimpArgs false

def validE (c f : Int) : Bool := decide (1 ≤ c) && decide (c ≤ 4294967295) && decide (0 ≤ f) && decide (f < 16)
def lessE (c f c' f' : Int) : Bool := decide (c < c') || (c == c' && decide (f < f'))
def sameE (c f c' f' : Int) : Bool := c == c' && f == f'
/-- The call handed back this bool; nothing that was there has turned. -/
def SaysBool (w : World) (b : Bool) (e : Ending) (w' : World) : Prop := e = .returned (.bool b) ∧ Below w.heap.size w w'
theorem ret_bool {a b : Bool} (h : a = b) : Ending.returned (.bool a) = .returned (.bool b) := by rw [h]

set_option maxHeartbeats 800000 in
theorem epochValid_any (c f : Int) (w : World) : Calls Try.prog 30 #[.agg #[.int .i64 c, .int .i64 f]] w (SaysBool w (validE c f)) := by
  go_enter Try.func30, Try.ntmps30
  go_wp2
  all_goals (go_ret; refine ⟨ret_bool ?_, ?_⟩)
  all_goals first | (rw [Bool.eq_iff_iff]; simp [validE]; omega) | exact (Below.refl _ _).alloc (Nat.le_refl _) _
set_option maxHeartbeats 800000 in
theorem refValid_any (c f : Int) (w : World) : Calls Try.prog 20 #[.agg #[.int .i64 c, .int .i64 f]] w (SaysBool w (validE c f)) := by
  go_enter Try.func20, Try.ntmps20
  go_wp2
  all_goals (go_ret; refine ⟨ret_bool ?_, ?_⟩)
  all_goals first | (rw [Bool.eq_iff_iff]; simp [validE]; omega) | exact (Below.refl _ _).alloc (Nat.le_refl _) _

set_option maxHeartbeats 800000 in
theorem epochLess_any (c f c' f' : Int) (w : World) : Calls Try.prog 28 #[.agg #[.int .i64 c, .int .i64 f], .agg #[.int .i64 c', .int .i64 f']] w (SaysBool w (lessE c f c' f')) := by
  by_cases h1 : c < c'
  · have HX : Hid (lessE c f c' f' = true) := by simp [Hid, lessE, h1]
    go_enter Try.func28, Try.ntmps28
    go_wp2
    go_ret
    exact ⟨ret_bool HX.out.symm, ((Below.refl _ _).alloc (Nat.le_refl _) _).alloc (by simp) _⟩
  · by_cases h2 : c = c'
    · subst h2
      have HX : Hid (lessE c f c f' = decide (f < f')) := by simp [Hid, lessE]
      go_enter Try.func28, Try.ntmps28
      go_wp2
      go_ret
      exact ⟨ret_bool HX.out.symm, ((Below.refl _ _).alloc (Nat.le_refl _) _).alloc (by simp) _⟩
    · have HX : Hid (lessE c f c' f' = false) := by simp [Hid, lessE, h1, h2]
      have h3 : (c == c') = false := by simpa using h2
      clear h2
      go_enter Try.func28, Try.ntmps28
      go_wp2
      go_ret
      exact ⟨ret_bool HX.out.symm, ((Below.refl _ _).alloc (Nat.le_refl _) _).alloc (by simp) _⟩

set_option maxHeartbeats 800000 in
theorem refLess_any (c f c' f' : Int) (w : World) : Calls Try.prog 12 #[.agg #[.int .i64 c, .int .i64 f], .agg #[.int .i64 c', .int .i64 f']] w (SaysBool w (lessE c f c' f')) := by
  by_cases h1 : c < c'
  · have HX : Hid (lessE c f c' f' = true) := by simp [Hid, lessE, h1]
    go_enter Try.func12, Try.ntmps12
    go_wp2
    go_ret
    exact ⟨ret_bool HX.out.symm, ((Below.refl _ _).alloc (Nat.le_refl _) _).alloc (by simp) _⟩
  · by_cases h2 : c = c'
    · subst h2
      have HX : Hid (lessE c f c f' = decide (f < f')) := by simp [Hid, lessE]
      go_enter Try.func12, Try.ntmps12
      go_wp2
      go_ret
      exact ⟨ret_bool HX.out.symm, ((Below.refl _ _).alloc (Nat.le_refl _) _).alloc (by simp) _⟩
    · have HX : Hid (lessE c f c' f' = false) := by simp [Hid, lessE, h1, h2]
      have h3 : (c == c') = false := by simpa using h2
      clear h2
      go_enter Try.func12, Try.ntmps12
      go_wp2
      go_ret
      exact ⟨ret_bool HX.out.symm, ((Below.refl _ _).alloc (Nat.le_refl _) _).alloc (by simp) _⟩

set_option maxHeartbeats 800000 in
theorem sameEpoch_any (c f c' f' : Int) (w : World) : Calls Try.prog 13 #[.agg #[.int .i64 c, .int .i64 f], .agg #[.int .i64 c', .int .i64 f']] w (SaysBool w (sameE c f c' f')) := by
  cases h2 : (c == c') with
  | true =>
    have HX : Hid (sameE c f c' f' = (f == f')) := by simp [Hid, sameE, h2]
    go_enter Try.func13, Try.ntmps13
    go_wp2
    go_ret
    exact ⟨ret_bool HX.out.symm, ((Below.refl _ _).alloc (Nat.le_refl _) _).alloc (by simp) _⟩
  | false =>
    have HX : Hid (sameE c f c' f' = false) := by simp [Hid, sameE, h2]
    go_enter Try.func13, Try.ntmps13
    go_wp2
    go_ret
    exact ⟨ret_bool HX.out.symm, ((Below.refl _ _).alloc (Nat.le_refl _) _).alloc (by simp) _⟩
end Go.Proofs.Ytioaapgpcpepmaa
