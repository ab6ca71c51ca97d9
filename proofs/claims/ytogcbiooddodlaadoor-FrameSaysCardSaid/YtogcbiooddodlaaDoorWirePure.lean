/- Numbers as bytes: plain data. No program in sight. -/
import Derived.Test.YtogcbiooddodlaaDoorLib
import Derived.Laws.BitsAllLaws
import Derived.Laws.Bits64
namespace Go.Proofs.YtogcbiooddodlaaDoor
open Go.RowKit
set_option linter.unusedSimpArgs false

theorem xor_ones (a : Nat) (ha : a < 18446744073709551616) : a ^^^ 18446744073709551615 = 18446744073709551615 - a := by
  have h := congrArg BitVec.toNat (BitVec.xor_allOnes (x := BitVec.ofNat 64 a))
  rw [BitVec.toNat_xor, BitVec.toNat_not, BitVec.toNat_ofNat, BitVec.toNat_allOnes] at h
  rw [Nat.mod_eq_of_lt (by omega)] at h
  simpa using h
/-- The order of the forms: 0, -1, 1, -2, .. -/
def zz (n : Int) : Nat := if 0 ≤ n then (2 * n).toNat else (-2 * n - 1).toNat
def unzz (z : Nat) : Int := if z % 2 = 0 then ((z / 2 : Nat) : Int) else -((z / 2 : Nat) : Int) - 1
def inI (n : Int) : Prop := -9223372036854775808 ≤ n ∧ n ≤ 9223372036854775807
theorem zz_lt {n : Int} (h : inI n) : zz n < 18446744073709551616 := by
  unfold zz; obtain ⟨h1, h2⟩ := h; split <;> omega
theorem unzz_zz (n : Int) : unzz (zz n) = n := by
  unfold zz unzz
  by_cases h : 0 ≤ n
  · rw [if_pos h, if_pos (by omega)]; omega
  · rw [if_neg h, if_neg (by omega)]; omega
theorem zz_unzz (z : Nat) : zz (unzz z) = z := by
  unfold zz unzz
  by_cases h : z % 2 = 0
  · rw [if_pos h, if_pos (by omega)]; omega
  · rw [if_neg h, if_neg (by omega)]; omega
theorem unzz_in {z : Nat} (h : z < 18446744073709551616) : inI (unzz z) := by
  unfold unzz inI; split <;> omega
theorem zz_bits {n : Int} (h : inI n) : bits .xor .u64 (IntKind.u64.wrap (IntKind.u64.wrap n * 2)) (IntKind.u64.wrap (n / 9223372036854775808)) = (zz n : Int) := by
  obtain ⟨h1, h2⟩ := h
  rw [IntKind.wrap_u64, IntKind.wrap_u64, IntKind.wrap_u64]
  by_cases h : 0 ≤ n
  · rw [show n / 9223372036854775808 % 18446744073709551616 = ((0 : Nat) : Int) from by omega, show n % 18446744073709551616 * 2 % 18446744073709551616 = ((2 * n).toNat : Int) from by omega, u64_xor_nat _ _ (by omega) (by omega), Nat.xor_zero, zz, if_pos h]
  · rw [show n / 9223372036854775808 % 18446744073709551616 = ((18446744073709551615 : Nat) : Int) from by omega, show n % 18446744073709551616 * 2 % 18446744073709551616 = ((2 * n + 18446744073709551616).toNat : Int) from by omega,
      u64_xor_nat _ _ (by omega) (by omega), xor_ones _ (by omega), zz, if_neg h]
    omega
theorem i64_xor_zero {x : Int} (h : inI x) : bits .xor .i64 x 0 = x := by
  obtain ⟨h1, h2⟩ := h
  have e : (BitVec.ofInt 64 x ^^^ BitVec.ofInt 64 0).toNat = (x % 18446744073709551616).toNat := by
    rw [show BitVec.ofInt 64 0 = 0#64 from rfl, BitVec.xor_zero]; simp [BitVec.toNat_ofInt]
  have e2 : bits .xor .i64 x 0 = IntKind.i64.wrap (((BitVec.ofInt 64 x ^^^ BitVec.ofInt 64 0).toNat : Nat) : Int) := rfl
  rw [e2, e]
  simp [IntKind.wrap, IntKind.bits, IntKind.signed]
  omega
theorem i64_xor_ones {x : Int} (h : inI x) : bits .xor .i64 x (-1) = -x - 1 := by
  obtain ⟨h1, h2⟩ := h
  have e : (BitVec.ofInt 64 x ^^^ BitVec.ofInt 64 (-1)).toNat = 18446744073709551615 - (x % 18446744073709551616).toNat := by
    rw [show BitVec.ofInt 64 (-1) = BitVec.allOnes 64 from rfl, BitVec.xor_allOnes, BitVec.toNat_not]; simp [BitVec.toNat_ofInt]
  have e2 : bits .xor .i64 x (-1) = IntKind.i64.wrap (((BitVec.ofInt 64 x ^^^ BitVec.ofInt 64 (-1)).toNat : Nat) : Int) := rfl
  rw [e2, e]
  simp [IntKind.wrap, IntKind.bits, IntKind.signed]
  omega

/-- A number's bytes. -/
def form (z : Nat) : List Int := if z < 128 then [(z : Int)] else ((z % 128 + 128 : Nat) : Int) :: form (z / 128)
decreasing_by omega
theorem form_small {z : Nat} (h : z < 128) : form z = [(z : Int)] := by rw [form, if_pos h]
theorem form_big {z : Nat} (h : ¬ z < 128) : form z = ((z % 128 + 128 : Nat) : Int) :: form (z / 128) := by rw [form, if_neg h]
set_option maxRecDepth 100000 in
theorem or_128 : ∀ a < 256, a ||| 128 = a % 128 + 128 := by decide
theorem byte_more {z : Nat} : bits .or .u8 ((z : Int) % 256) 128 = ((z % 128 + 128 : Nat) : Int) := by
  rw [show (z : Int) % 256 = ((z % 256 : Nat) : Int) from by omega, show (128 : Int) = ((128 : Nat) : Int) from rfl, u8_or_nat _ _ (by omega) (by omega), or_128 _ (by omega)]
  omega
theorem byte_low {c : Nat} (h : c < 256) : bits .andNot .u8 (c : Int) 128 = ((c % 128 : Nat) : Int) := by
  rw [show (128 : Int) = ((128 : Nat) : Int) from rfl, u8_andNot_nat _ _ h (by omega), show 255 - 128 = 127 from rfl, nat_mask7]
/-- How many bytes. -/
theorem form_len_pos (z : Nat) : 0 < (form z).length := by
  by_cases h : z < 128
  · rw [form_small h]; simp
  · rw [form_big h]; simp

theorem form_len_le (k : Nat) : ∀ z, z < 128 ^ (k + 1) → (form z).length ≤ k + 1 := by
  induction k with
  | zero => intro z h; rw [form_small (by simpa using h)]; simp
  | succ k ih =>
    intro z h
    by_cases hz : z < 128
    · rw [form_small hz]; simp
    · rw [form_big hz, List.length_cons]
      have := ih (z / 128) (by rw [Nat.div_lt_iff_lt_mul (by omega)]; rw [Nat.pow_succ] at h; exact h)
      omega
theorem form_len10 {z : Nat} (h : z < 18446744073709551616) : (form z).length ≤ 10 := form_len_le 9 z (by omega)

/-- What is read of bytes: no end; not its shape; a number and how many bytes. -/
inductive Rd where
  | ends
  | shape
  | num (n : Int) (k : Nat)
def rd : List Int → Nat → Nat → Rd
  | [], _, _ => .ends
  | c :: cs, i, z =>
    if i = 9 ∧ 1 < c then .shape
    else if 128 ≤ c then rd cs (i + 1) (z + c.toNat % 128 * 2 ^ (7 * i))
    else if c = 0 ∧ 0 < i then .shape
    else .num (unzz (z + c.toNat % 128 * 2 ^ (7 * i))) (i + 1)
theorem rd_drop {bs : List Int} {n : Nat} (h : n < bs.length) (i z : Nat) : rd (bs.drop n) i z =
    if i = 9 ∧ 1 < bs[n] then .shape
    else if 128 ≤ bs[n] then rd (bs.drop (n + 1)) (i + 1) (z + bs[n].toNat % 128 * 2 ^ (7 * i))
    else if bs[n] = 0 ∧ 0 < i then .shape
    else .num (unzz (z + bs[n].toNat % 128 * 2 ^ (7 * i))) (i + 1) := by
  rw [List.drop_eq_getElem_cons h, rd]
theorem rd_end {bs : List Int} {n : Nat} (h : bs.length ≤ n) (i z : Nat) : rd (bs.drop n) i z = .ends := by
  rw [List.drop_of_length_le h, rd]
def IsB (bs : List Int) : Prop := ∀ b ∈ bs, 0 ≤ b ∧ b < 256
theorem step_lt {x k : Nat} (hk : k ≤ 9) (h9 : k = 9 → x % 128 ≤ 1) : x % 128 * 2 ^ (7 * k) < 18446744073709551616 := by
  by_cases h : k = 9
  · subst h
    have := h9 rfl
    omega
  · have h1 : 2 ^ (7 * k) ≤ 2 ^ 56 := Nat.pow_le_pow_right (by omega) (by omega)
    have h2 : x % 128 < 128 := Nat.mod_lt _ (by omega)
    calc x % 128 * 2 ^ (7 * k) ≤ 127 * 2 ^ 56 := Nat.mul_le_mul (by omega) h1
      _ < 18446744073709551616 := by omega
theorem or_step {x y k : Nat} (hx : x < 256) (hk : k ≤ 9) (hy : y < 2 ^ (7 * k)) (h9 : k = 9 → x % 128 ≤ 1) :
    bits .or .u64 (y : Int) (IntKind.u64.wrap (IntKind.u64.wrap (bits .andNot .u8 (x : Int) 128) * 2 ^ (7 * k))) = ((y + x % 128 * 2 ^ (7 * k) : Nat) : Int) := by
  have hlt := step_lt hk h9
  have hy2 : y < 18446744073709551616 := Nat.lt_of_lt_of_le hy (Nat.le_trans (Nat.pow_le_pow_right (by omega) (by omega : 7 * k ≤ 63)) (by omega))
  rw [byte_low hx, IntKind.wrap_u64, IntKind.wrap_u64, show ((x % 128 : Nat) : Int) % 18446744073709551616 = ((x % 128 : Nat) : Int) from by omega,
    show ((x % 128 : Nat) : Int) * 2 ^ (7 * k) = ((x % 128 * 2 ^ (7 * k) : Nat) : Int) from by simp, show ((x % 128 * 2 ^ (7 * k) : Nat) : Int) % 18446744073709551616 = ((x % 128 * 2 ^ (7 * k) : Nat) : Int) from by omega,
    u64_or_nat _ _ hy2 hlt, Nat.or_comm, nat_join (7 * k) _ _ (Nat.mul_mod_left _ _) hy, Nat.add_comm]
theorem step_up {x y k : Nat} (hy : y < 2 ^ (7 * k)) : y + x % 128 * 2 ^ (7 * k) < 2 ^ (7 * (k + 1)) := by
  have h2 : x % 128 < 128 := Nat.mod_lt _ (by omega)
  have h3 : x % 128 * 2 ^ (7 * k) ≤ 127 * 2 ^ (7 * k) := Nat.mul_le_mul_right _ (by omega)
  rw [show 7 * (k + 1) = 7 * k + 7 from by omega, Nat.pow_add]
  omega
theorem step_top {x y k : Nat} (hk : k ≤ 9) (hy : y < 2 ^ (7 * k)) (h9 : k = 9 → x % 128 ≤ 1) : y + x % 128 * 2 ^ (7 * k) < 18446744073709551616 := by
  by_cases h : k = 9
  · subst h
    have := h9 rfl
    omega
  · have := step_up (x := x) hy
    have h1 : 2 ^ (7 * (k + 1)) ≤ 2 ^ 63 := Nat.pow_le_pow_right (by omega) (by omega)
    omega
theorem num_val {T : Int} {Z : Nat} (h : T = (Z : Int)) (hZ : Z < 18446744073709551616) : bits .xor .i64 (wrap64 (T / 2)) (wrap64 (-wrap64 (bits .and .u64 T 1))) = unzz Z := by
  subst h
  rw [show (1 : Int) = ((1 : Nat) : Int) from rfl, u64_and_nat _ _ hZ (by omega), nat_mask1, show (2 : Int) = ((2 : Nat) : Int) from rfl, show (Z : Int) / ((2 : Nat) : Int) = ((Z / 2 : Nat) : Int) from by simp]
  have h1 : wrap64 ((Z / 2 : Nat) : Int) = ((Z / 2 : Nat) : Int) := IntWalk.wrap64_in _ ⟨by omega, by omega⟩
  have h2 : wrap64 ((Z % 2 : Nat) : Int) = ((Z % 2 : Nat) : Int) := IntWalk.wrap64_in _ ⟨by omega, by omega⟩
  rw [h1, h2]
  unfold unzz
  by_cases hp : Z % 2 = 0
  · rw [hp, if_pos rfl, show wrap64 (-((0 : Nat) : Int)) = 0 from IntWalk.wrap64_in _ ⟨by omega, by omega⟩, i64_xor_zero ⟨by omega, by omega⟩]
  · rw [if_neg hp, show Z % 2 = 1 from by omega, show wrap64 (-((1 : Nat) : Int)) = -1 from IntWalk.wrap64_in _ ⟨by omega, by omega⟩, i64_xor_ones ⟨by omega, by omega⟩]
end Go.Proofs.YtogcbiooddodlaaDoor
