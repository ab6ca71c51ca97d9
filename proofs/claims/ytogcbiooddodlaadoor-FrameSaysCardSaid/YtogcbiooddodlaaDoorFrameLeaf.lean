/- Frames: the leaves of a token's Valid: epochs, numbers among others, cars, calls held one against another. -/
import Derived.Test.YtogcbiooddodlaaDoorFrameBeat
namespace Go.Proofs.YtogcbiooddodlaaDoor
open Go.RowKit
set_option linter.unusedSimpArgs false

def validE (c f : Int) : Bool := decide (1 ≤ c) && decide (c ≤ 4294967295) && decide (0 ≤ f) && decide (f < 16)
set_option maxHeartbeats 800000 in
theorem epochValid_any (c f : Int) (w : World) : Calls Tryd.prog 69 #[.agg #[.int .i64 c, .int .i64 f]] w (SaysBool w (validE c f)) := by
  go_enter Tryd.func69, Tryd.ntmps69
  go_wp2
  all_goals (go_ret; refine ⟨ret_bool ?_, ?_⟩)
  all_goals first | (rw [Bool.eq_iff_iff]; simp [validE]; omega) | exact (Below.refl _ _).alloc (Nat.le_refl _) _
set_option maxHeartbeats 800000 in
theorem refValid_any (c f : Int) (w : World) : Calls Tryd.prog 82 #[.agg #[.int .i64 c, .int .i64 f]] w (SaysBool w (validE c f)) := by
  go_enter Tryd.func82, Tryd.ntmps82
  go_wp2
  all_goals (go_ret; refine ⟨ret_bool ?_, ?_⟩)
  all_goals first | (rw [Bool.eq_iff_iff]; simp [validE]; omega) | exact (Below.refl _ _).alloc (Nat.le_refl _) _

def AmongRel (w : World) (xs : List Int) (n : Int) (i : Value) (wr : World) : Prop := w = wr ∧ ∃ k : Nat, k ≤ xs.length ∧ i = .int .i64 k ∧ n ∉ xs.take k
theorem not_mem_take {xs : List Int} {k : Nat} {n : Int} (h : k < xs.length) (h1 : n ∉ xs.take k) (h2 : xs.getD k 0 ≠ n) : n ∉ xs.take (k + 1) := by
  rw [List.take_succ_eq_append_getElem h, List.mem_append]
  rintro (h3 | h3)
  · exact h1 h3
  · simp only [List.mem_singleton] at h3
    exact h2 (by rw [getD_get h, h3])
theorem mem_getD {xs : List Int} {k : Nat} (h : k < xs.length) : xs.getD k 0 ∈ xs := by
  rw [getD_get h]
  exact List.getElem_mem h

set_option maxHeartbeats 800000 in
theorem among_any (A : Option Addr) (c : Nat) (xs : List Int) (n : Int) (w : World) (hx : Sl w A (xs.map (Value.int .i64))) (hl : xs.length ≤ 9223372036854775807) :
    Calls Tryd.prog 83 #[.slice A xs.length c, .int .i64 n] w fun e w' => e = .returned (.bool (decide (n ∈ xs))) ∧ w = w' := by
  go_enter Tryd.func83, Tryd.ntmps83
  go_wp2
  go_loopw [5] (fun i wr => AmongRel w xs n i wr) (fun i _ => xs.length - (intOf i).toNat)
  case atStart => exact ⟨rfl, 0, Nat.zero_le _, rfl, by simp⟩
  case round =>
    obtain ⟨rfl, k, hk, rfl, hno⟩ := hrel
    by_cases hlt : k < xs.length
    · obtain ⟨b, o, rfl, _, hc⟩ := hx.at (by simp; omega)
      have hcell : w.cell? ⟨b, o + k, none⟩ = some (.int .i64 (xs.getD k 0)) := by rw [hc k (by simpa using hlt), getD_int hlt]
      have hmem := mem_getD hlt
      have hnext := not_mem_take hlt hno
      obtain ⟨x, ex⟩ : ∃ x, xs.getD k 0 = x := ⟨_, rfl⟩
      rw [ex] at hcell hmem hnext
      clear hc ex
      by_cases he : x = n
      · have hb : (x == n) = true := by simpa using he
        have HM : Hid (decide (n ∈ xs) = true) := by rw [Hid, decide_eq_true_eq, ← he]; exact hmem
        clear he hmem hnext hno
        go_wp2
        go_ret
        exact ⟨by rw [HM.out]; rfl, rfl⟩
      · have hb : (x == n) = false := by simpa using he
        have HN := hid (hnext he)
        clear he hmem hnext hno
        go_wp2
        go_roundw
        case rel => exact ⟨rfl, k + 1, by omega, by go_num, HN.out⟩
        case measure => simp [intOf]; omega
    · have hk' : k = xs.length := by omega
      have HM : Hid (decide (n ∈ xs) = false) := by
        rw [Hid, decide_eq_false_iff_not]
        rw [hk', List.take_length] at hno
        exact hno
      clear hno hk'
      go_wp2
      go_ret
      exact ⟨by rw [HM.out]; rfl, rfl⟩

/-- Where it is first; -1: nowhere. -/
def GivesPlace (w : World) (xs : List Int) (n : Int) (e : Ending) (w' : World) : Prop := ∃ r : Int, e = .returned (.int .i64 r) ∧ w = w' ∧ (0 ≤ r ↔ n ∈ xs)
set_option maxHeartbeats 800000 in
theorem index_any (A : Option Addr) (c : Nat) (xs : List Int) (n : Int) (w : World) (hx : Sl w A (xs.map (Value.int .i64))) (hl : xs.length ≤ 9223372036854775807) :
    Calls Tryd.prog 94 #[.slice A xs.length c, .int .i64 n] w (GivesPlace w xs n) := by
  go_enter Tryd.func94, Tryd.ntmps94
  go_wp2
  go_loopw [8] (fun i wr => AmongRel w xs n i wr) (fun i _ => xs.length - (intOf i).toNat)
  case atStart => exact ⟨rfl, 0, Nat.zero_le _, rfl, by simp⟩
  case round =>
    obtain ⟨rfl, k, hk, rfl, hno⟩ := hrel
    by_cases hlt : k < xs.length
    · obtain ⟨b, o, rfl, _, hc⟩ := hx.at (by simp; omega)
      have hcell : w.cell? ⟨b, o + k, none⟩ = some (.int .i64 (xs.getD k 0)) := by rw [hc k (by simpa using hlt), getD_int hlt]
      have hmem := mem_getD hlt
      have hnext := not_mem_take hlt hno
      obtain ⟨x, ex⟩ : ∃ x, xs.getD k 0 = x := ⟨_, rfl⟩
      rw [ex] at hcell hmem hnext
      clear hc ex
      by_cases he : x = n
      · have hb : (n == x) = true := by simpa using he.symm
        have HM : Hid (n ∈ xs) := by rw [Hid, ← he]; exact hmem
        clear he hmem hnext hno
        go_wp2
        go_ret
        exact ⟨_, rfl, rfl, ⟨fun _ => HM.out, fun _ => by omega⟩⟩
      · have hb : (n == x) = false := by simpa using fun h => he h.symm
        have HN := hid (hnext he)
        clear he hmem hnext hno
        go_wp2
        go_roundw
        case rel => exact ⟨rfl, k + 1, by omega, by go_num, HN.out⟩
        case measure => simp [intOf]; omega
    · have hk' : k = xs.length := by omega
      have HM : Hid (n ∉ xs) := by
        rw [hk', List.take_length] at hno
        exact hno
      clear hno hk'
      go_wp2
      go_ret
      exact ⟨-1, rfl, rfl, ⟨fun h => absurd h (by decide), fun h => absurd h HM.out⟩⟩

set_option maxHeartbeats 800000 in
theorem contains_any (A : Option Addr) (c : Nat) (xs : List Int) (n : Int) (w : World) (hx : Sl w A (xs.map (Value.int .i64))) (hl : xs.length ≤ 9223372036854775807) :
    Calls Tryd.prog 90 #[.slice A xs.length c, .int .i64 n] w fun e w' => e = .returned (.bool (decide (n ∈ xs))) ∧ w = w' := by
  go_enter Tryd.func90, Tryd.ntmps90
  go_wp2_with fail
  refine (index_any A c xs n _ hx hl).mono ?_
  rintro e w' ⟨r, rfl, rfl, hr⟩
  have HR := hid hr
  clear hr
  go_wp2
  go_ret
  exact ⟨ret_bool (decide_eq_decide.2 HR.out), rfl⟩

/-- May a number be a car's? -/
def isCar (n : Int) : Bool := decide (0 ≤ n) && decide (n < 16)
theorem carB_any (n : Int) (w : World) : Calls Tryd.prog 50 #[.int .i64 n] w fun e w' => e = .returned (.bool (isCar n)) ∧ w = w' := by
  by_cases h1 : 0 ≤ n
  · have e : isCar n = decide (n < 16) := by simp [isCar, h1]
    rw [e]
    clear e
    go_enter Tryd.func50, Tryd.ntmps50
    go_wp2_with fail
    go_ret
    exact ⟨rfl, rfl⟩
  · have e : isCar n = false := by simp [isCar, h1]
    rw [e]
    clear e
    go_enter Tryd.func50, Tryd.ntmps50
    go_wp2_with fail
    go_ret
    exact ⟨rfl, rfl⟩
theorem notCar_any (n : Int) (w : World) : Calls Tryd.prog 71 #[.int .i64 n] w fun e w' => e = .returned (.bool (!isCar n)) ∧ w = w' := by
  have hc := carB_any n w
  cases h : isCar n
  all_goals
    rw [h] at hc
    go_enter Tryd.func71, Tryd.ntmps71
    go_wp2_with fail
    refine hc.mono ?_
    rintro e w' ⟨rfl, rfl⟩
    go_wp2_with fail
    go_ret
    exact ⟨rfl, rfl⟩
def cmpI (a b : Int) : Int := if a < b then -1 else if b < a then 1 else 0
set_option maxHeartbeats 800000 in
theorem cmp_any (a b : Int) (w : World) : Calls Tryd.prog 96 #[.int .i64 a, .int .i64 b] w fun e w' => e = .returned (.int .i64 (cmpI a b)) ∧ w = w' := by
  have hn : ∀ (x : Int) (w : World), Calls Tryd.prog 99 #[.int .i64 x] w fun e w' => e = .returned (.bool false) ∧ w = w' := fun x w => by
    have hx : (x != x) = false := by simp
    go_enter Tryd.func99, Tryd.ntmps99
    go_wp2_with fail
    go_ret
    exact ⟨by first | rfl | rw [hx], rfl⟩
  by_cases h1 : a < b
  · have HE := hid (show cmpI a b = -1 from if_pos h1)
    go_enter Tryd.func96, Tryd.ntmps96
    go_wp2_with fail
    refine (hn _ _).mono ?_
    rintro e w' ⟨rfl, rfl⟩
    go_wp2_with fail
    refine (hn _ _).mono ?_
    rintro e w' ⟨rfl, rfl⟩
    go_wp2_with fail
    go_ret
    exact ⟨by rw [HE.out]; rfl, rfl⟩
  · have h1' : b ≤ a := by omega
    by_cases h2 : b < a
    · have HE := hid (show cmpI a b = 1 from (if_neg h1).trans (if_pos h2))
      go_enter Tryd.func96, Tryd.ntmps96
      go_wp2_with fail
      refine (hn _ _).mono ?_
      rintro e w' ⟨rfl, rfl⟩
      go_wp2_with fail
      refine (hn _ _).mono ?_
      rintro e w' ⟨rfl, rfl⟩
      go_wp2_with fail
      go_ret
      exact ⟨by rw [HE.out]; rfl, rfl⟩
    · have h2' : a ≤ b := by omega
      have HE := hid (show cmpI a b = 0 from (if_neg h1).trans (if_neg h2))
      go_enter Tryd.func96, Tryd.ntmps96
      go_wp2_with fail
      refine (hn _ _).mono ?_
      rintro e w' ⟨rfl, rfl⟩
      go_wp2_with fail
      refine (hn _ _).mono ?_
      rintro e w' ⟨rfl, rfl⟩
      go_wp2_with fail
      go_ret
      exact ⟨by rw [HE.out]; rfl, rfl⟩
end Go.Proofs.YtogcbiooddodlaaDoor
