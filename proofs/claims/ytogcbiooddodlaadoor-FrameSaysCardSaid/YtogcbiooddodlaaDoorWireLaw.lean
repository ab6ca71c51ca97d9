/- Numbers as bytes: what is laid is read. No program in sight. -/
import Derived.Test.YtogcbiooddodlaaDoorWirePure
namespace Go.Proofs.YtogcbiooddodlaaDoor
open Go.RowKit

theorem rd_form_at (rest : List Int) (y : Nat) : ∀ i acc, i ≤ 9 → y * 2 ^ (7 * i) < 18446744073709551616 → (0 < i → 0 < y) → rd (form y ++ rest) i acc = .num (unzz (acc + y * 2 ^ (7 * i))) (i + (form y).length) := by
  induction y using Nat.strongRecOn with
  | ind y ih =>
    intro i acc hi hlt hpos
    by_cases hy : y < 128
    · rw [form_small hy, List.singleton_append, rd, if_neg, if_neg (by omega), if_neg (fun h => by have := hpos h.2; omega)]
      · rw [show ((y : Int).toNat) % 128 = y from by omega]
        rfl
      · rintro ⟨rfl, h⟩
        have : 2 * 2 ^ (7 * 9) ≤ y * 2 ^ (7 * 9) := Nat.mul_le_mul_right _ (by omega)
        omega
    · have hi8 : i ≤ 8 := by
        rcases Nat.lt_or_ge 8 i with h | h
        · have h9 : i = 9 := by omega
          subst h9
          have : 128 * 2 ^ (7 * 9) ≤ y * 2 ^ (7 * 9) := Nat.mul_le_mul_right _ (by omega)
          omega
        · exact h
      have hsplit : y % 128 * 2 ^ (7 * i) + y / 128 * 2 ^ (7 * (i + 1)) = y * 2 ^ (7 * i) := by
        rw [show 7 * (i + 1) = 7 * i + 7 from by omega, Nat.pow_add, show (2 : Nat) ^ 7 = 128 from rfl]
        have h := Nat.div_add_mod y 128
        calc y % 128 * 2 ^ (7 * i) + y / 128 * (2 ^ (7 * i) * 128) = (128 * (y / 128) + y % 128) * 2 ^ (7 * i) := by
              rw [Nat.add_mul, Nat.mul_comm 128, Nat.mul_assoc, Nat.mul_comm 128, Nat.add_comm]
          _ = y * 2 ^ (7 * i) := by rw [h]
      rw [form_big hy, List.cons_append, rd, if_neg (fun h => by omega), if_pos (by omega), show (((y % 128 + 128 : Nat) : Int).toNat) % 128 = y % 128 from by omega,
        ih (y / 128) (by omega) (i + 1) _ (by omega) (by omega) (fun _ => by omega), List.length_cons]
      rw [show acc + y % 128 * 2 ^ (7 * i) + y / 128 * 2 ^ (7 * (i + 1)) = acc + y * 2 ^ (7 * i) from by omega, show i + 1 + (form (y / 128)).length = i + ((form (y / 128)).length + 1) from by omega]
theorem rd_form {n : Int} (h : inI n) (rest : List Int) : rd (form (zz n) ++ rest) 0 0 = .num n (form (zz n)).length := by
  have := rd_form_at rest (zz n) 0 0 (by omega) (by simpa using zz_lt h) (fun h => by omega)
  rw [this]
  simp [unzz_zz]
/-- Cut off anywhere within: its end. -/
theorem rd_cut_at (y : Nat) : ∀ i acc k, i ≤ 9 → y * 2 ^ (7 * i) < 18446744073709551616 → k < (form y).length → rd ((form y).take k) i acc = .ends := by
  induction y using Nat.strongRecOn with
  | ind y ih =>
    intro i acc k hi hlt hk
    cases k with
    | zero => rw [List.take_zero, rd]
    | succ k =>
      by_cases hy : y < 128
      · rw [form_small hy] at hk
        simp at hk
      · rw [form_big hy, List.length_cons] at hk
        have hi8 : i ≤ 8 := by
          rcases Nat.lt_or_ge 8 i with h | h
          · have h9 : i = 9 := by omega
            subst h9
            have : 128 * 2 ^ (7 * 9) ≤ y * 2 ^ (7 * 9) := Nat.mul_le_mul_right _ (by omega)
            omega
          · exact h
        have hle : y / 128 * 2 ^ (7 * (i + 1)) ≤ y * 2 ^ (7 * i) := by
          rw [show 7 * (i + 1) = 7 * i + 7 from by omega, Nat.pow_add, show (2 : Nat) ^ 7 = 128 from rfl]
          calc y / 128 * (2 ^ (7 * i) * 128) = (y / 128 * 128) * 2 ^ (7 * i) := by rw [Nat.mul_comm (2 ^ (7 * i)), Nat.mul_assoc]
            _ ≤ y * 2 ^ (7 * i) := Nat.mul_le_mul_right _ (by omega)
        rw [form_big hy, List.take_succ_cons, rd, if_neg (fun h => by omega), if_pos (by omega), ih (y / 128) (by omega) (i + 1) _ k (by omega) (by omega) (by omega)]
theorem rd_cut {n : Int} (h : inI n) {k : Nat} (hk : k < (form (zz n)).length) : rd ((form (zz n)).take k) 0 0 = .ends :=
  rd_cut_at (zz n) 0 0 k (by omega) (by simpa using zz_lt h) hk
end Go.Proofs.YtogcbiooddodlaaDoor
