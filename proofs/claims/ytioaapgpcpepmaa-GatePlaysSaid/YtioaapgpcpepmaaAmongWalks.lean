/- Is a number among others: the document's loop, and the library's. -/
import Derived.Test.YtioaapgpcpepmaaEpochWalks
import Derived.Test.YtioaapgpcpepmaaRefInts
namespace Go.Proofs.Ytioaapgpcpepmaa
open Go.RowKit

def AmongRel (w : World) (xs : List Int) (n : Int) (i : Value) (wr : World) : Prop := w = wr ∧ ∃ k : Nat, k ≤ xs.length ∧ i = .int .i64 k ∧ n ∉ xs.take k
theorem not_mem_take {xs : List Int} {k : Nat} {n : Int} (h : k < xs.length) (h1 : n ∉ xs.take k) (h2 : xs.getD k 0 ≠ n) : n ∉ xs.take (k + 1) := by
  rw [List.take_succ_eq_append_getElem h, List.mem_append]
  rintro (h3 | h3)
  · exact h1 h3
  · simp only [List.mem_singleton] at h3
    exact h2 (by rw [getD_get h, h3])
theorem mem_getD {xs : List Int} {k : Nat} (h : k < xs.length) : xs.getD k 0 ∈ xs := by
  rw [getD_get h]
  exact List.getElem_mem h

set_option maxHeartbeats 800000 in
theorem among_any (A : Option Addr) (c : Nat) (xs : List Int) (n : Int) (w : World) (hx : Sl w A (xs.map (Value.int .i64))) (hl : xs.length ≤ 9223372036854775807) :
    Calls Try.prog 15 #[.slice A xs.length c, .int .i64 n] w fun e w' => e = .returned (.bool (decide (n ∈ xs))) ∧ w = w' := by
  go_enter Try.func15, Try.ntmps15
  go_wp2
  go_loopw [5] (fun i wr => AmongRel w xs n i wr) (fun i _ => xs.length - (intOf i).toNat)
  case atStart => exact ⟨rfl, 0, Nat.zero_le _, rfl, by simp⟩
  case round =>
    obtain ⟨rfl, k, hk, rfl, hno⟩ := hrel
    by_cases hlt : k < xs.length
    · obtain ⟨b, o, rfl, _, hc⟩ := hx.at (by simp; omega)
      have hcell : w.cell? ⟨b, o + k, none⟩ = some (.int .i64 (xs.getD k 0)) := by rw [hc k (by simpa using hlt), getD_int hlt]
      have hmem := mem_getD hlt
      have hnext := not_mem_take hlt hno
      obtain ⟨x, ex⟩ : ∃ x, xs.getD k 0 = x := ⟨_, rfl⟩
      rw [ex] at hcell hmem hnext
      clear hc ex
      by_cases he : x = n
      · have hb : (x == n) = true := by simpa using he
        have HM : Hid (decide (n ∈ xs) = true) := by rw [Hid, decide_eq_true_eq, ← he]; exact hmem
        clear he hmem hnext hno
        go_wp2
        go_ret
        exact ⟨by rw [HM.out]; rfl, rfl⟩
      · have hb : (x == n) = false := by simpa using he
        have HN := hid (hnext he)
        clear he hmem hnext hno
        go_wp2
        go_roundw
        case rel => exact ⟨rfl, k + 1, by omega, by go_num, HN.out⟩
        case measure => simp [intOf]; omega
    · have hk' : k = xs.length := by omega
      have HM : Hid (decide (n ∈ xs) = false) := by
        rw [Hid, decide_eq_false_iff_not]
        rw [hk', List.take_length] at hno
        exact hno
      clear hno hk'
      go_wp2
      go_ret
      exact ⟨by rw [HM.out]; rfl, rfl⟩

/-- Where it is first; -1: nowhere. -/
def GivesPlace (w : World) (xs : List Int) (n : Int) (e : Ending) (w' : World) : Prop := ∃ r : Int, e = .returned (.int .i64 r) ∧ w = w' ∧ (0 ≤ r ↔ n ∈ xs)
set_option maxHeartbeats 800000 in
theorem index_any (A : Option Addr) (c : Nat) (xs : List Int) (n : Int) (w : World) (hx : Sl w A (xs.map (Value.int .i64))) (hl : xs.length ≤ 9223372036854775807) :
    Calls Try.prog 31 #[.slice A xs.length c, .int .i64 n] w (GivesPlace w xs n) := by
  go_enter Try.func31, Try.ntmps31
  go_wp2
  go_loopw [8] (fun i wr => AmongRel w xs n i wr) (fun i _ => xs.length - (intOf i).toNat)
  case atStart => exact ⟨rfl, 0, Nat.zero_le _, rfl, by simp⟩
  case round =>
    obtain ⟨rfl, k, hk, rfl, hno⟩ := hrel
    by_cases hlt : k < xs.length
    · obtain ⟨b, o, rfl, _, hc⟩ := hx.at (by simp; omega)
      have hcell : w.cell? ⟨b, o + k, none⟩ = some (.int .i64 (xs.getD k 0)) := by rw [hc k (by simpa using hlt), getD_int hlt]
      have hmem := mem_getD hlt
      have hnext := not_mem_take hlt hno
      obtain ⟨x, ex⟩ : ∃ x, xs.getD k 0 = x := ⟨_, rfl⟩
      rw [ex] at hcell hmem hnext
      clear hc ex
      by_cases he : x = n
      · have hb : (n == x) = true := by simpa using he.symm
        have HM : Hid (n ∈ xs) := by rw [Hid, ← he]; exact hmem
        clear he hmem hnext hno
        go_wp2
        go_ret
        exact ⟨_, rfl, rfl, ⟨fun _ => HM.out, fun _ => by omega⟩⟩
      · have hb : (n == x) = false := by simpa using fun h => he h.symm
        have HN := hid (hnext he)
        clear he hmem hnext hno
        go_wp2
        go_roundw
        case rel => exact ⟨rfl, k + 1, by omega, by go_num, HN.out⟩
        case measure => simp [intOf]; omega
    · have hk' : k = xs.length := by omega
      have HM : Hid (n ∉ xs) := by
        rw [hk', List.take_length] at hno
        exact hno
      clear hno hk'
      go_wp2
      go_ret
      exact ⟨-1, rfl, rfl, ⟨fun h => absurd h (by decide), fun h => absurd h HM.out⟩⟩

set_option maxHeartbeats 800000 in
theorem contains_any (A : Option Addr) (c : Nat) (xs : List Int) (n : Int) (w : World) (hx : Sl w A (xs.map (Value.int .i64))) (hl : xs.length ≤ 9223372036854775807) :
    Calls Try.prog 29 #[.slice A xs.length c, .int .i64 n] w fun e w' => e = .returned (.bool (decide (n ∈ xs))) ∧ w = w' := by
  go_enter Try.func29, Try.ntmps29
  go_wp2_with fail
  refine (index_any A c xs n _ hx hl).mono ?_
  rintro e w' ⟨r, rfl, rfl, hr⟩
  have HR := hid hr
  clear hr
  go_wp2
  go_ret
  exact ⟨ret_bool (decide_eq_decide.2 HR.out), rfl⟩
set_option maxHeartbeats 800000 in
theorem has_any (A : Option Addr) (c : Nat) (xs : List Int) (n : Int) (w : World) (hx : Sl w A (xs.map (Value.int .i64))) (hl : xs.length ≤ 9223372036854775807) :
    Calls Try.prog 26 #[.slice A xs.length c, .int .i64 n] w fun e w' => e = .returned (.bool (decide (n ∈ xs))) ∧ w = w' := by
  go_enter Try.func26, Try.ntmps26
  go_wp2_with fail
  refine (contains_any A c xs n _ hx hl).mono ?_
  rintro e w' ⟨rfl, rfl⟩
  go_wp2
  go_ret
  exact ⟨rfl, rfl⟩
end Go.Proofs.Ytioaapgpcpepmaa
