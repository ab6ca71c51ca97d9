/- Numbers as bytes: a number is read. -/
import Derived.Test.YtogcbiooddodlaaDoorWirePut
import Derived.Test.YtogcbiooddodlaaDoorLaidErrs3
import Derived.BigRegion
import Derived.Deep.CutBlock
namespace Go.Proofs.YtogcbiooddodlaaDoor
open Go.RowKit
set_option linter.unusedSimpArgs false

/-- A reader as it lies: its bytes, the place, the first error. -/
structure RdrIs (w : World) (lo r : Nat) (bs : List Int) (p : Nat) (err : Value) : Prop where
  blk : ∃ A c, Blk w r [.slice A bs.length c, .int .i64 p, err] 83 ∧ Sl w A (bs.map (Value.int .u8)) ∧ ∀ a, A = some a → lo ≤ a.block ∧ a.block < r ∧ bs.length ≤ c
  isb : IsB bs
  le : p ≤ bs.length
  len : bs.length ≤ 1000000

def rdOut (ad : Int → Addr) : Rd → Array Value
  | .ends => #[.int .i64 0, .int .i64 0, errV ad 101]
  | .shape => #[.int .i64 0, .int .i64 0, errV ad 102]
  | .num n k => #[.int .i64 n, .int .i64 k, .nilIface]
def NumRel (w : World) (bs : List Int) (p : Nat) (z i : Value) (wr : World) : Prop :=
  ∃ (k y q : Nat), i = .int .i64 k ∧ z = .int .u64 y ∧ k ≤ 9 ∧ y < 2 ^ (7 * k) ∧ rd (bs.drop p) 0 0 = rd (bs.drop (p + k)) k y ∧ wr = w.drewN q
attribute [irreducible] NumRel

set_option maxRecDepth 100000 in
set_option maxHeartbeats 4000000 in
theorem number_wire {ad : Int → Addr} {lo r p : Nat} {bs : List Int} {err : Value} (w : World) (hE : Errs3 ad w) (hr : RdrIs w lo r bs p err) :
    Calls Tryd.prog 45 #[.pointer (some ⟨r, 0, none⟩)] w fun e w' => e = .returned (.tuple (rdOut ad (rd (bs.drop p) 0 0))) ∧ ∃ q, w' = w.drewN q := by
  obtain ⟨A, c, hb, hs, hA⟩ := hr.blk
  have hle := hr.le
  have hlen := hr.len
  have hisb := hr.isb
  have c0 : w.cell? ⟨r, 0, none⟩ = some (.slice A bs.length c) := hb.cell 0
  have c1 : w.cell? ⟨r, 1, none⟩ = some (.int .i64 p) := hb.cell 1
  have g1 : w.cell? ⟨1, 0, none⟩ = some (.iface 136 (.pointer (some (ad 101)))) := hE.end_
  have g2 : w.cell? ⟨3, 0, none⟩ = some (.iface 136 (.pointer (some (ad 102)))) := hE.shape
  clear hb hA hr hE
  go_enter Tryd.func45, Tryd.ntmps45
  go_wp2_with fail
  go_loopw [5, 6] (fun z i wr => NumRel w bs p z i wr) (fun _ i _ => 10 - (intOf i).toNat)
  case atStart => unfold NumRel; exact ⟨0, 0, 0, rfl, rfl, by omega, by simp, rfl, rfl⟩
  case round =>
    unfold NumRel at hrel
    obtain ⟨k, y, q, rfl, rfl, hk, hy, heq, rfl⟩ := hrel
    have HQ := hid heq
    clear heq
    go_upto_region 4 with (fail)
    by_cases hend : p + k < bs.length
    · obtain ⟨b0, o0, rfl, hbw, hcx⟩ := hs.at (by rw [List.length_map]; omega)
      have hcc : w.cell? ⟨b0, o0 + (p + k), none⟩ = some (.int .u8 bs[p + k]) := (hcx (p + k) (by rw [List.length_map]; omega)).trans (by simp)
      have hrange := hisb _ (List.getElem_mem hend)
      have hstep := rd_drop hend k y
      obtain ⟨x, hx⟩ : ∃ x : Nat, bs[p + k] = (x : Int) := ⟨bs[p + k].toNat, by omega⟩
      rw [hx] at hcc hrange hstep
      have HS := hid hstep
      have hend' : ((p : Int) + k) < bs.length := by omega
      have hx256 : x < 256 := by omega
      clear hcx hx hstep hrange
      go_region
      go_wp2_with fail
      go_region
      by_cases h128 : 128 ≤ x
      · by_cases h9 : k = 9
        · have hkb : ((k : Int) == 9) = true := by simp; omega
          have h1x : (1 : Int) < x := by omega
          have HF : Hid (rd (bs.drop p) 0 0 = .shape) := by rw [Hid, HQ.out, HS.out, if_pos ⟨h9, h1x⟩]
          go_wp2_with fail
          go_region
          go_wp2_with fail
          go_ret3
          exact ⟨by rw [HF.out]; rfl, _, rfl⟩
        · have hkb : ((k : Int) == 9) = false := by simp; omega
          have h128' : 128 ≤ (x : Int) := by omega
          have HF : Hid (rd (bs.drop p) 0 0 = rd (bs.drop (p + (k + 1))) (k + 1) (y + x % 128 * 2 ^ (7 * k))) := by
            rw [Hid, HQ.out, HS.out, if_neg (fun h => h9 h.1), if_pos (by omega)]
            rfl
          have HO := hid (or_step hx256 hk hy (fun h => absurd h h9))
          have HU := hid (step_up (x := x) hy)
          go_wp2_with fail
          refine ⟨?_, by simp [intOf]; omega⟩
          unfold NumRel
          exact ⟨k + 1, _, _, by go_num, by rw [HO.out], by omega, HU.out, HF.out, rfl⟩
      · have h128' : (x : Int) < 128 := by omega
        have h127 : x % 128 = x := Nat.mod_eq_of_lt (by omega)
        by_cases h9 : k = 9
        · have hkb : ((k : Int) == 9) = true := by simp; omega
          by_cases h1 : 1 < x
          · have h1x : (1 : Int) < x := by omega
            have HF : Hid (rd (bs.drop p) 0 0 = .shape) := by rw [Hid, HQ.out, HS.out, if_pos ⟨h9, h1x⟩]
            go_wp2_with fail
            go_region
            go_wp2_with fail
            go_ret3
            exact ⟨by rw [HF.out]; rfl, _, rfl⟩
          · have h1x : (x : Int) ≤ 1 := by omega
            subst h9
            have HO : Hid (bits BinOp.or IntKind.u64 (↑y) (IntKind.u64.wrap (IntKind.u64.wrap (bits BinOp.andNot IntKind.u8 (↑x) 128) * 9223372036854775808)) = ((y + x * 2 ^ (7 * 9) : Nat) : Int)) := by
              have h := or_step hx256 hk hy (fun _ => by omega)
              rw [h127] at h
              exact h
            have HU : Hid (y + x * 2 ^ (7 * 9) < 18446744073709551616) := by
              have h := step_top (x := x) hk hy (fun _ => by omega)
              rw [h127] at h
              exact h
            clear hkb
            by_cases h0 : x = 0
            · have h0' : ((x : Int) == 0) = true := by simp; omega
              have HF : Hid (rd (bs.drop p) 0 0 = .shape) := by
                rw [Hid, HQ.out, HS.out, if_neg (fun h => by omega), if_neg (by omega), if_pos (by omega)]
              go_wp2_with fail
              go_region
              go_wp2_with fail
              go_ret3
              exact ⟨by rw [HF.out]; rfl, _, rfl⟩
            · have h0' : ((x : Int) == 0) = false := by simp; omega
              have HF : Hid (rd (bs.drop p) 0 0 = .num (unzz (y + x * 2 ^ (7 * 9))) (9 + 1)) := by
                rw [Hid, HQ.out, HS.out, if_neg (fun h => by omega), if_neg (by omega), if_neg (by omega), show (x : Int).toNat % 128 = x from by omega]
              go_wp2_with fail
              go_ret3
              refine ⟨?_, _, rfl⟩
              rw [HF.out]
              show _ = Ending.returned (.tuple #[.int .i64 (unzz (y + x * 2 ^ (7 * 9))), .int .i64 ((9 + 1 : Nat) : Int), .nilIface])
              rw [← num_val HO.out HU.out]
              rfl
        · have hkb : ((k : Int) == 9) = false := by simp; omega
          have HO := hid (or_step hx256 hk hy (fun h => absurd h h9))
          have HU := hid (step_top (x := x) hk hy (fun h => absurd h h9))
          rw [h127] at HO HU
          by_cases h0 : x = 0
          · have h0' : ((x : Int) == 0) = true := by simp; omega
            by_cases hk0 : k = 0
            · have hk0' : ¬ 0 < (k : Int) := by omega
              have HF : Hid (rd (bs.drop p) 0 0 = .num (unzz 0) 1) := by
                rw [Hid, HQ.out, HS.out, if_neg (fun h => h9 h.1), if_neg (by omega), if_neg (by omega), show (x : Int).toNat % 128 = x from by omega, h0, hk0, show y = 0 from by subst hk0; simpa using hy]
              have HO0 : Hid (bits BinOp.or IntKind.u64 (↑y) (IntKind.u64.wrap (IntKind.u64.wrap (bits BinOp.andNot IntKind.u8 0 128))) = ((0 : Nat) : Int)) := by
                have h := HO.out
                rw [h0, hk0, show y = 0 from by subst hk0; simpa using hy] at h
                rw [show y = 0 from by subst hk0; simpa using hy, Hid]
                simpa using h
              go_wp2_with fail
              go_ret3
              refine ⟨?_, _, rfl⟩
              rw [HF.out]
              show _ = Ending.returned (.tuple #[.int .i64 (unzz 0), .int .i64 ((1 : Nat) : Int), .nilIface])
              rw [← num_val HO0.out (by omega)]
              rfl
            · have hk0' : 0 < (k : Int) := by omega
              have HF : Hid (rd (bs.drop p) 0 0 = .shape) := by
                rw [Hid, HQ.out, HS.out, if_neg (fun h => h9 h.1), if_neg (by omega), if_pos (by omega)]
              go_wp2_with fail
              go_region
              go_wp2_with fail
              go_ret3
              exact ⟨by rw [HF.out]; rfl, _, rfl⟩
          · have h0' : ((x : Int) == 0) = false := by simp; omega
            have HF : Hid (rd (bs.drop p) 0 0 = .num (unzz (y + x * 2 ^ (7 * k))) (k + 1)) := by
              rw [Hid, HQ.out, HS.out, if_neg (fun h => h9 h.1), if_neg (by omega), if_neg (by omega), show (x : Int).toNat % 128 = x from by omega]
            go_wp2_with fail
            go_ret3
            refine ⟨?_, _, rfl⟩
            rw [HF.out]
            show _ = Ending.returned (.tuple #[.int .i64 (unzz (y + x * 2 ^ (7 * k))), .int .i64 ((k + 1 : Nat) : Int), .nilIface])
            rw [← num_val HO.out HU.out]
            rfl
    · have hend' : (bs.length : Int) ≤ (p : Int) + k := by omega
      have HS := hid (rd_end (show bs.length ≤ p + k by omega) k y)
      go_region
      go_wp2_with fail
      go_region
      go_wp2_with fail
      go_ret3
      exact ⟨by rw [HQ.out, HS.out]; rfl, _, rfl⟩
end Go.Proofs.YtogcbiooddodlaaDoor
