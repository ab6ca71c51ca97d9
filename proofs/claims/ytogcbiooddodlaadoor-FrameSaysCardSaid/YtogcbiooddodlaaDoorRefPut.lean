/- The document's Put: a number behind a copy of bytes. -/
import Derived.Test.YtogcbiooddodlaaDoorWireFirst
import Derived.Test.YtogcbiooddodlaaDoorRefCopy
namespace Go.Proofs.YtogcbiooddodlaaDoor
open Go.RowKit
set_option linter.unusedSimpArgs false

theorem zz_neg {n : Int} (h : inI n) (h0 : n < 0) : bits .xor .u64 IntKind.u64.max (IntKind.u64.wrap (IntKind.u64.wrap n * 2)) = (zz n : Int) := by
  obtain ⟨h1, h2⟩ := h
  have hm : IntKind.u64.max = ((18446744073709551615 : Nat) : Int) := by decide
  rw [hm, IntKind.wrap_u64, IntKind.wrap_u64, show n % 18446744073709551616 * 2 % 18446744073709551616 = ((2 * n + 18446744073709551616).toNat : Int) from by omega,
    u64_xor_nat _ _ (by omega) (by omega), Nat.xor_comm, xor_ones _ (by omega), zz, if_neg (by omega)]
  omega
theorem zz_pos {n : Int} (h : inI n) (h0 : 0 ≤ n) : IntKind.u64.wrap (IntKind.u64.wrap n * 2) = (zz n : Int) := by
  obtain ⟨h1, h2⟩ := h
  rw [IntKind.wrap_u64, IntKind.wrap_u64, zz, if_pos h0]
  omega
set_option maxRecDepth 100000 in
theorem or_128_low : ∀ a < 128, a ||| 128 = a + 128 := by decide
theorem byte_ref {z : Nat} (h : z < 18446744073709551616) : bits .or .u64 (bits .and .u64 (z : Int) 127) 128 = ((z % 128 + 128 : Nat) : Int) := by
  rw [show (127 : Int) = ((127 : Nat) : Int) from rfl, u64_and_nat _ _ h (by omega), nat_mask7, show (128 : Int) = ((128 : Nat) : Int) from rfl, u64_or_nat _ _ (by omega) (by omega), or_128_low _ (by omega)]

set_option maxRecDepth 100000 in
set_option maxHeartbeats 4000000 in
theorem refPut_any (n : Int) (hn : inI n) (A : Option Addr) (c : Nat) (xs : List Int) (w : World) (hs : Sl w A (xs.map (Value.int .u8))) (hl : xs.length ≤ 1000000) :
    Calls Tryd.prog 27 #[.slice A xs.length c, .int .i64 n] w (GivesRow w w.heap.size (xs ++ form (zz n))) := by
  have HZ := hid (zz_lt hn)
  have HL := hid (form_len10 (zz_lt hn))
  have HN := hid hn
  obtain ⟨h1, h2⟩ := hn
  go_enter Tryd.func27, Tryd.ntmps27
  go_wp2_with fail
  refine (refBytes_any A c xs w hs hl).mono ?_
  rintro e w1 ⟨v, rfl, hown, hb1⟩
  obtain ⟨A0, c0, rfl, _, _, _⟩ := Sl.row hown
  have HO := hid (And.intro hown hb1)
  clear hown hb1 hs
  go_upto_if 13 with (fail)
  go_cut [6] (fun v wx => v = .int .u64 (zz n : Nat) ∧ wx = w1)
  case first =>
    by_cases h0 : n < 0
    · have hz := zz_neg HN.out h0
      go_wp2_with fail
      go_meet
      exact ⟨rfl, rfl⟩
    · have h0' : 0 ≤ n := by omega
      have hz := zz_pos HN.out h0'
      go_wp2_with fail
      go_meet
      exact ⟨rfl, rfl⟩
  case rest =>
    obtain ⟨rfl, hwx⟩ := hcut
    obtain rfl : w1 = _ := hwx.symm
    have hown := HO.out.1
    have hb1 := HO.out.2
    clear HO
    go_wp2_with fail
    go_loopw [5, 6] (fun v z wr => PutRel w w.heap.size xs n v z wr) (fun _ z _ => valOf z)
    case atStart => unfold PutRel; exact ⟨[], zz n, rfl, HZ.out, rfl, by simpa using hown, hb1⟩
    case round =>
      clear hown hb1
      unfold PutRel at hrel
      obtain ⟨pre, y, rfl, hy, hf, hown, hb⟩ := hrel
      obtain ⟨A1, c1, rfl, _, _, _⟩ := Sl.row hown
      have hlen : (xs ++ pre).length ≤ 2000000 := by
        have h := HL.out
        rw [← hf, List.length_append] at h
        rw [List.length_append]; omega
      have HO := hid (And.intro hown (And.intro hlen hb.size))
      by_cases hge : y < 128
      · have hf2 := hf
        rw [form_small hge] at hf2
        have HF := hid hf2
        have hy' : ¬ 128 ≤ (y : Int) := by omega
        have hy2 : (y : Int) < 128 := by omega
        clear hown hlen hf hf2
        go_wp2_with (at_builtin; refine wpList_append_byte rfl _ _ rfl rfl HO.out.1 (y : Int) wr.heap.size rfl rfl rfl HO.out.2.1 HO.out.2.2 ?_; intro v5 w5 hown5 hb5; rw [List.append_assoc, HF.out] at hown5; obtain ⟨A5, c5, rfl, _, _, _⟩ := Sl.row hown5)
        go_ret
        exact ⟨.slice A5 (xs ++ form (zz n)).length c5, by rw [List.length_append]; rfl, hown5, hb.trans hb5⟩
      · have hf2 := hf
        rw [form_big hge] at hf2
        have HF := hid hf2
        have hbr := byte_ref hy
        have hy' : 128 ≤ (y : Int) := by omega
        clear hown hlen hf hf2
        go_wp2_with (at_builtin; refine wpList_append_byte rfl _ _ rfl rfl HO.out.1 ((y : Int) % 128 + 128) wr.heap.size rfl rfl rfl HO.out.2.1 HO.out.2.2 ?_; intro v5 w5 hown5 hb5)
        rw [List.append_assoc, show ((y : Int) % 128 + 128) = ((y % 128 + 128 : Nat) : Int) from by omega] at hown5
        go_roundw
        case rel => unfold PutRel; exact ⟨_, y / 128, by go_num, by omega, by rw [List.append_assoc]; exact HF.out, hown5, hb.trans hb5⟩
        case measure => simp [valOf]; omega
end Go.Proofs.YtogcbiooddodlaaDoor
