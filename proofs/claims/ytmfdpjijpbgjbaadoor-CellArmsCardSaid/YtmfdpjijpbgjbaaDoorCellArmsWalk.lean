/- CellArms: the walk. -/
import Derived.Test.YtmfdpjijpbgjbaaDoorCellFirst
import Derived.Test.YtmfdpjijpbgjbaaDoorCellArmsPure
namespace Go.Proofs.YtmfdpjijpbgjbaaDoor
open Go.RowKit
set_option linter.unusedSimpArgs false

def ArmsRel (W : World) (b g : Nat) (n : Int) (m : Nat) (i : Value) (wr : World) : Prop :=
  ∃ k : Nat, k ≤ m ∧ i = .int .i64 k ∧ CellIs wr b g (Cl.arms n k) ∧ Below W.heap.size W wr
def ReadRel (W : World) (b g : Nat) (c : Cl) (i : Value) (wr : World) : Prop :=
  ∃ k : Nat, k ≤ 30 ∧ i = .int .i64 k ∧ CellIs wr b g c ∧ Below W.heap.size W wr
attribute [irreducible] ArmsRel ReadRel

set_option maxRecDepth 100000 in
set_option maxHeartbeats 4000000 in
theorem cellArms_walk {ad : Int → Addr} (a0 a1 : Int) (w : World) (hE : Errs ad w) :
    Calls Tryd.prog 3 #[.int .i64 a0, .int .i64 a1] w (SaysTrue w) := by
  go_enter Tryd.func3, Tryd.ntmps3
  go_wp2_with fail
  refine (first_any _ hE).mono ?_
  rintro e w1 ⟨rfl, hB1⟩
  go_wp2_with fail
  refine (number_any a0 30 (by omega) (by omega) _).mono ?_
  rintro e w' ⟨rfl, rfl⟩
  have hn0 := Int.emod_nonneg a0 (show (30 : Int) ≠ 0 by omega)
  have hn1 := Int.emod_lt_of_pos a0 (show (0 : Int) < 30 by omega)
  generalize a0 % 30 = n at *
  go_wp2_with fail
  refine (number_any a1 30 (by omega) (by omega) _).mono ?_
  rintro e w' ⟨rfl, rfl⟩
  obtain ⟨m, hm, hm1⟩ : ∃ m : Nat, a1 % 30 = m ∧ m < 30 := ⟨(a1 % 30).toNat, by omega, by omega⟩
  rw [hm]
  clear hm
  go_wp2_with fail
  refine (new_yes 30 _ (by omega) (by omega)).mono ?_
  rintro e w2 ⟨b, g, rfl, hc2, hbB, hgB, hb2⟩
  have hB2 := hB1.trans (hb2.mono hB1.size)
  have hbW : w.heap.size ≤ b := Nat.le_trans hB1.size hbB
  have hgW : w.heap.size ≤ g := Nat.le_trans hB1.size hgB
  clear hB1 hb2 hbB hgB
  go_wp2_with fail
  refine (arm_any n _ hc2).mono ?_
  rintro e w3 ⟨rfl, hc3, he3⟩
  rw [arms_zero n hn0] at hc3
  have hB3 := at2_below hB2 he3 hbW hgW
  clear hc2 he3 hB2
  go_wp2_with fail
  go_loopw [8] (fun i wr => ArmsRel w b g n m i wr) (fun i _ => m - (intOf i).toNat)
  case atStart => unfold ArmsRel; exact ⟨0, by omega, rfl, hc3, hB3⟩
  case round =>
    clear hc3 hB3
    unfold ArmsRel at hrel
    obtain ⟨k, hk, rfl, hc, hB⟩ := hrel
    by_cases hlt : k < m
    · have hp := put_any k ((k : Int) + 1) _ (hE.below hB).four hc (arms_ok n k hn0 hn1) (by simp only [Cl.arms]; split <;> first | omega | (split <;> omega))
      obtain ⟨hp1, hp2⟩ := arms_put n k hn0 (by omega)
      rw [hp1, hp2] at hp
      clear hp1 hp2
      by_cases h1 : n < 1
      · rw [show armOk n k = true from by simp [armOk, h1], if_pos rfl, errV_zero] at hp
        have HP := hid hp
        clear hp
        go_wp2_with fail
        refine HP.out.mono ?_
        rintro e w4 ⟨rfl, hc4, he4⟩
        have hB4 := at2_below hB he4 hbW hgW
        go_wp2_with fail
        go_roundw
        case rel => unfold ArmsRel; exact ⟨k + 1, by omega, by go_num, hc4, hB4⟩
        case measure => simp [intOf]; omega
      · by_cases h2 : (k : Int) + 1 < n
        · rw [show armOk n k = true from by simp [armOk, h2], if_pos rfl, errV_zero] at hp
          have HP := hid hp
          clear hp
          go_wp2_with fail
          refine HP.out.mono ?_
          rintro e w4 ⟨rfl, hc4, he4⟩
          have hB4 := at2_below hB he4 hbW hgW
          go_wp2_with fail
          go_roundw
          case rel => unfold ArmsRel; exact ⟨k + 1, by omega, by go_num, hc4, hB4⟩
          case measure => simp [intOf]; omega
        · rw [show armOk n k = false from by simp [armOk]; omega, if_neg (by decide), errV_ne _ (by decide)] at hp
          have HP := hid hp
          clear hp
          go_wp2_with fail
          refine HP.out.mono ?_
          rintro e w4 ⟨rfl, hc4, he4⟩
          have hB4 := at2_below hB he4 hbW hgW
          go_wp2_with fail
          go_roundw
          case rel => unfold ArmsRel; exact ⟨k + 1, by omega, by go_num, hc4, hB4⟩
          case measure => simp [intOf]; omega
    · obtain rfl : k = m := by omega
      go_wp2_with fail
      refine (back_any _ hc).mono ?_
      rintro e w4 ⟨rfl, hc4, he4⟩
      have hB4 := at2_below hB he4 hbW hgW
      clear hc hB he4 hlt
      go_wp2_with fail
      go_loopw [10] (fun i wr => ReadRel w b g (Cl.arms n k).back i wr) (fun i _ => 30 - (intOf i).toNat)
      case atStart => unfold ReadRel; exact ⟨0, by omega, rfl, hc4, hB4⟩
      case round =>
        clear hc4 hB4
        unfold ReadRel at hrel
        obtain ⟨j, hj, rfl, hc, hB⟩ := hrel
        by_cases hlt : j < 30
        · have hp := get_any j _ (hE.below hB).four hc
          obtain ⟨hp1, hp2⟩ := arms_get n k j hlt
          rw [hp1, hp2, errV_zero] at hp
          clear hp1 hp2
          by_cases h0 : j < k
          · by_cases h1 : n < 1
            · rw [show armByte n k j = (j : Int) + 1 from by simp [armByte, armOk, h0, h1]] at hp
              have HP := hid hp
              clear hp
              go_wp2_with fail
              refine HP.out.mono ?_
              rintro e w5 ⟨rfl, q, rfl⟩
              go_wp2_with fail
              go_roundw
              case rel => unfold ReadRel; exact ⟨j + 1, by omega, by go_num, hc, below_drewN hB q⟩
              case measure => simp [intOf]; omega
            · by_cases h2 : (j : Int) + 1 < n
              · rw [show armByte n k j = (j : Int) + 1 from by simp [armByte, armOk, h0, h2]] at hp
                have HP := hid hp
                clear hp
                go_wp2_with fail
                refine HP.out.mono ?_
                rintro e w5 ⟨rfl, q, rfl⟩
                go_wp2_with fail
                go_roundw
                case rel => unfold ReadRel; exact ⟨j + 1, by omega, by go_num, hc, below_drewN hB q⟩
                case measure => simp [intOf]; omega
              · rw [show armByte n k j = 0 from by simp [armByte, armOk, h1]; omega] at hp
                have HP := hid hp
                clear hp
                go_wp2_with fail
                refine HP.out.mono ?_
                rintro e w5 ⟨rfl, q, rfl⟩
                go_wp2_with fail
                go_roundw
                case rel => unfold ReadRel; exact ⟨j + 1, by omega, by go_num, hc, below_drewN hB q⟩
                case measure => simp [intOf]; omega
          · rw [show armByte n k j = 0 from by simp [armByte, h0]] at hp
            have HP := hid hp
            clear hp
            go_wp2_with fail
            refine HP.out.mono ?_
            rintro e w5 ⟨rfl, q, rfl⟩
            go_wp2_with fail
            go_roundw
            case rel => unfold ReadRel; exact ⟨j + 1, by omega, by go_num, hc, below_drewN hB q⟩
            case measure => simp [intOf]; omega
        · obtain rfl : j = 30 := by omega
          go_wp2_with fail
          refine (down_any _ hc).mono ?_
          rintro e w' ⟨rfl, rfl⟩
          rw [show (Cl.arms n k).back.down = false from rfl]
          have hp := put_any 0 9 _ (hE.below hB).four hc (Cl.back_ok (arms_ok n k hn0 hn1)) (by simp only [Cl.arms, Cl.back]; split <;> first | omega | (split <;> omega))
          rw [show (Cl.arms n k).back.putE 0 = 0 from by simp [Cl.putE, Cl.gone, Cl.back, Cl.is, Cl.arms], errV_zero] at hp
          have HP := hid hp
          clear hp
          go_wp2_with fail
          refine HP.out.mono ?_
          rintro e w5 ⟨rfl, hc5, he5⟩
          have hB5 := at2_below hB he5 hbW hgW
          go_wp2_with fail
          go_ret
          exact ⟨rfl, hB5⟩
end Go.Proofs.YtmfdpjijpbgjbaaDoor
