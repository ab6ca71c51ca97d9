/- A record that is kept, as plain data. No program in sight. -/
import Derived.Test.YtmfdpjijpbgjbaaDoorCellPure
import Derived.Laws.BitsAllLaws
namespace Go.Proofs.YtmfdpjijpbgjbaaDoor
open Go.RowKit

/-- So many bytes as a number. -/
def numK (bs : List Int) (p : Nat) : Nat → Int
  | 0 => 0
  | k + 1 => numK bs p k * 256 + bs.getD (p + k) 0
def six (bs : List Int) (p : Nat) : Int := numK bs p 6
def IsB (bs : List Int) : Prop := ∀ x ∈ bs, 0 ≤ x ∧ x ≤ 255
theorem IsB.at {bs : List Int} (h : IsB bs) (p : Nat) : 0 ≤ bs.getD p 0 ∧ bs.getD p 0 ≤ 255 := by
  rw [List.getD_eq_getElem?_getD]
  by_cases hp : p < bs.length
  · rw [List.getElem?_eq_getElem hp]
    exact h _ (List.getElem_mem hp)
  · rw [List.getElem?_eq_none (by omega)]
    simp
theorem numK_range {bs : List Int} (h : IsB bs) (p k : Nat) : 0 ≤ numK bs p k ∧ numK bs p k < 256 ^ k := by
  induction k with
  | zero => simp [numK]
  | succ k ih =>
    have h1 := h.at (p + k)
    rw [numK, Int.pow_succ]
    omega
theorem numK_small {bs : List Int} (h : IsB bs) (p : Nat) {k : Nat} (hk : k ≤ 6) : 0 ≤ numK bs p k ∧ numK bs p k < 281474976710656 := by
  have h1 := numK_range h p k
  have h2 : (256 : Int) ^ k ≤ 256 ^ 6 := by
    rcases k with _ | _ | _ | _ | _ | _ | _ | k <;> first | decide | omega
  rw [show (256 : Int) ^ 6 = 281474976710656 from by decide] at h2
  omega
theorem numK_five {bs : List Int} (h : IsB bs) (p : Nat) {k : Nat} (hk : k ≤ 5) : numK bs p k < 1099511627776 := by
  have h1 := numK_range h p k
  have h2 : (256 : Int) ^ k ≤ 256 ^ 5 := by
    rcases k with _ | _ | _ | _ | _ | _ | k <;> first | decide | omega
  rw [show (256 : Int) ^ 5 = 1099511627776 from by decide] at h2
  omega
theorem i64_or_nat (a b : Nat) (ha : a < 9223372036854775808) (hb : b < 9223372036854775808) : bits .or .i64 (a : Int) (b : Int) = ((a ||| b : Nat) : Int) := by
  have hx : a ||| b < 2 ^ 63 := Nat.or_lt_two_pow (by omega) (by omega)
  show IntKind.i64.wrap ((BitVec.ofInt 64 (a : Int) ||| BitVec.ofInt 64 (b : Int)).toNat : Int) = _
  rw [BitVec.toNat_or, ofInt_u64 a (by omega), ofInt_u64 b (by omega)]
  simp only [IntKind.wrap, IntKind.bits, IntKind.signed]
  have h1 : ((a ||| b : Nat) : Int) < 9223372036854775808 := by omega
  simp
  omega
theorem or_byte {n x : Int} (h0 : 0 ≤ n) (h1 : n < 1099511627776) (x0 : 0 ≤ x) (x1 : x ≤ 255) : bits .or .i64 (n * 256) x = n * 256 + x := by
  obtain ⟨a, rfl⟩ := Int.eq_ofNat_of_zero_le h0
  obtain ⟨b, rfl⟩ := Int.eq_ofNat_of_zero_le x0
  rw [show ((a : Int) * 256) = ((a * 256 : Nat) : Int) from by simp, i64_or_nat _ _ (by omega) (by omega), nat_join 8 _ _ (by omega) (by omega)]
  simp

theorem num_step {bs : List Int} (h : IsB bs) (p : Nat) {k : Nat} (hk : k ≤ 5) : bits .or .i64 (wrap64 (numK bs p k * 256)) (wrap64 (bs[p + k]?.getD 0)) = numK bs p (k + 1) := by
  have h1 := numK_five h p hk
  have h2 := (numK_small h p (show k ≤ 6 by omega)).1
  have h3 := h.at (p + k)
  rw [List.getD_eq_getElem?_getD] at h3
  rw [IntWalk.wrap64_in _ ⟨by omega, by omega⟩, IntWalk.wrap64_in _ ⟨by omega, by omega⟩, or_byte h2 h1 h3.1 h3.2, numK, List.getD_eq_getElem?_getD]

/-- What a slot has: none, unless its mark is 1. -/
def slotOf (bs : List Int) (k : Nat) : Option (Int × Int) := if bs.getD (13 * k) 0 = 1 then some (six bs (13 * k + 1), six bs (13 * k + 7)) else none
def sumR (r : Int × Int) : Int := r.1 + r.2
/-- One slot more is looked at. -/
def look (a : (Int × Int) × Int) (k : Nat) : Option (Int × Int) → (Int × Int) × Int
  | none => a
  | some r => if a.2 < 0 ∨ sumR a.1 < sumR r then (r, k) else a
def openR (bs : List Int) : (Int × Int) × Int := look (look ((0, 0), -1) 0 (slotOf bs 0)) 1 (slotOf bs 1)
def RecOk (r : Int × Int) : Prop := 0 ≤ r.1 ∧ r.1 < 281474976710656 ∧ 0 ≤ r.2 ∧ r.2 < 281474976710656
theorem slotOf_ok {bs : List Int} (h : IsB bs) {k : Nat} {r : Int × Int} (hr : slotOf bs k = some r) : RecOk r := by
  unfold slotOf at hr
  split at hr
  · obtain rfl := Option.some.inj hr
    exact ⟨(numK_small h _ (by omega)).1, (numK_small h _ (by omega)).2, (numK_small h _ (by omega)).1, (numK_small h _ (by omega)).2⟩
  · cases hr
theorem look_ok {a : (Int × Int) × Int} {k : Nat} {o : Option (Int × Int)} (ha : RecOk a.1) (ho : ∀ r, o = some r → RecOk r) : RecOk (look a k o).1 := by
  cases o with
  | none => exact ha
  | some r =>
    by_cases h : a.2 < 0 ∨ sumR a.1 < sumR r
    · rw [show look a k (some r) = (r, (k : Int)) from if_pos h]; exact ho r rfl
    · rw [show look a k (some r) = a from if_neg h]; exact ha
theorem zero_ok : RecOk (0, 0) := ⟨by decide, by decide, by decide, by decide⟩
theorem openR_ok {bs : List Int} (h : IsB bs) : RecOk (openR bs).1 := look_ok (look_ok zero_ok (fun _ => slotOf_ok h)) (fun _ => slotOf_ok h)
/-- Which slot: -1, 0, 1. -/
theorem openR_at (bs : List Int) : (openR bs).2 = -1 ∨ (openR bs).2 = 0 ∨ (openR bs).2 = 1 := by
  unfold openR
  cases slotOf bs 0 <;> cases slotOf bs 1 <;> simp [look]
  split <;> simp
end Go.Proofs.YtmfdpjijpbgjbaaDoor
