/- The document's table of who is alive, who is alive in it; a copy of a list of numbers. -/
import Derived.Test.YtlihiiaabfkhaaaLiveRef
namespace Go.Proofs.Ytlihiiaabfkhaaa
open Go.RowKit

set_option maxHeartbeats 800000 in
theorem refAlive_any {b : Nat} {t : Tab} (ht : t.ok) (w : World) (hb : Blk w b t.refCells 46) :
    Calls Try.prog 19 #[.pointer (some ⟨b, 0, none⟩)] w (GivesInts w t.alive) := by
  go_enter Try.func19, Try.ntmps19
  go_wp2
  go_loopw [3, 4] (fun v i wr => AliveRel t w v i wr) (fun _ i _ => 16 - (intOf i).toNat)
  case atStart => exact ⟨0, by omega, rfl, World.ownsRow_nil _ _ _ _, Below.refl _ _⟩
  case round =>
    obtain ⟨k, hk, rfl, hown, hbl⟩ := hrel
    by_cases hlt : k < 16
    · have hbr := (Eff.of_below (S := fun _ => False) hbl).blk hb (fun h => h)
      have c1 : wr.cell? ⟨b, 32 + k, none⟩ = some (.bool (t.at k).heard) := hbr.cell_some (ref_heard ht.1 hlt)
      have c2 : wr.cell? ⟨b, 48 + k, none⟩ = some (.bool (t.at k).out) := hbr.cell_some (ref_out ht.1 hlt)
      have HS := hid (Tab.aliveTo_succ t k)
      have hal := Tab.aliveTo_length t k
      cases hh : (t.at k).heard with
      | false =>
        have HA : Hid ((t.at k).alive = false) := by simp [Hid, One.alive, hh]
        rw [hh] at c1
        clear hh
        go_wp2
        go_roundw
        case rel =>
          refine ⟨k + 1, by omega, by go_num, ?_, hbl⟩
          rw [HS.out, HA.out]
          simpa using hown
        case measure => simp [intOf]; omega
      | true =>
        cases ho : (t.at k).out with
        | true =>
          have HA : Hid ((t.at k).alive = false) := by simp [Hid, One.alive, ho]
          rw [hh] at c1
          rw [ho] at c2
          clear hh ho
          go_wp2
          go_roundw
          case rel =>
            refine ⟨k + 1, by omega, by go_num, ?_, hbl⟩
            rw [HS.out, HA.out]
            simpa using hown
          case measure => simp [intOf]; omega
        | false =>
          have HA : Hid ((t.at k).alive = true) := by simp [Hid, One.alive, hh, ho]
          rw [hh] at c1
          rw [ho] at c2
          clear hh ho
          go_wp2_with (at_builtin; refine wpList_append_new row_ints rfl _ _ rfl w.heap.size _ _ _ rfl hown 1 [.int .i64 k] _ rfl rfl rfl rfl (by unfold maxLen; omega) (by omega) hbl.size rfl ?_; intro v' w' hown' hgrow)
          have hbl' := hbl.grown hgrow hbl.size (fun j hj => (hown.lt j hj).1)
          clear hgrow hown c1 c2 hbr
          go_wp2
          go_roundw
          case rel =>
            refine ⟨k + 1, by omega, by go_num, ?_, hbl'⟩
            rw [HS.out, HA.out]
            simpa using hown'
          case measure => simp [intOf]; omega
    · have hk16 : k = 16 := by omega
      subst hk16
      go_wp2
      go_ret
      exact ⟨_, rfl, hown, hbl⟩

def IntsRel (w : World) (xs : List Int) (v i : Value) (wr : World) : Prop :=
  ∃ k : Nat, k ≤ xs.length ∧ i = .int .i64 k ∧ wr.ownsRow w.heap.size 3 1 v k ((xs.take k).map (Value.int .i64)) ∧ Below w.heap.size w wr

set_option maxHeartbeats 800000 in
theorem ints_any (A : Option Addr) (c : Nat) (xs : List Int) (w : World) (hx : Sl w A (xs.map (Value.int .i64))) (hl : xs.length ≤ 1000000) :
    Calls Try.prog 16 #[.slice A xs.length c] w (GivesInts w xs) := by
  go_enter Try.func16, Try.ntmps16
  go_wp2_with (at_make; refine wpList_make_room row_ints rfl _ _ rfl w.heap.size xs.length rfl _ rfl rfl (by omega) (by unfold maxLen; omega) (Nat.le_refl _) ?_; intro w1 hown1 hgrow1)
  have hB1 : Below w.heap.size w w1 := (Below.refl _ _).grown hgrow1 (Nat.le_refl _) (fun k hk => by cases hk)
  clear hgrow1
  go_wp2
  go_loopw [3, 4] (fun v i wr => IntsRel w xs v i wr) (fun _ i _ => xs.length - (intOf i).toNat)
  case atStart => exact ⟨0, by omega, rfl, by simpa using hown1, hB1⟩
  case round =>
    obtain ⟨k, hk, rfl, hown, hbl⟩ := hrel
    clear hown1 hB1
    by_cases hlt : k < xs.length
    · obtain ⟨b, o, rfl, hbw, hc⟩ := hx.at (by simp; omega)
      have hcell : wr.cell? ⟨b, o + k, none⟩ = some (.int .i64 (xs.getD k 0)) := by rw [hbl.cell (p := ⟨b, o + k, none⟩) hbw, hc k (by simpa using hlt), getD_int hlt]
      have HT : Hid ((xs.take (k + 1)).map (Value.int .i64) = (xs.take k).map (Value.int .i64) ++ [.int .i64 (xs.getD k 0)]) := take_ints hlt _
      obtain ⟨x, ex⟩ : ∃ x, xs.getD k 0 = x := ⟨_, rfl⟩
      rw [ex] at hcell HT
      clear hc ex
      go_wp2_with (at_builtin; refine wpList_append_new row_ints rfl _ _ rfl w.heap.size _ _ _ rfl hown 1 [.int .i64 x] _ rfl rfl rfl rfl (by unfold maxLen; omega) (by omega) hbl.size rfl ?_; intro v' w' hown' hgrow)
      have hbl' := hbl.grown hgrow hbl.size (fun j hj => (hown.lt j hj).1)
      clear hgrow hown hcell
      go_wp2
      go_roundw
      case rel => exact ⟨k + 1, by omega, by go_num, by rw [HT.out]; exact hown', hbl'⟩
      case measure => simp [intOf]; omega
    · have hk' : k = xs.length := by omega
      subst hk'
      rw [List.take_length] at hown
      go_wp2
      go_ret
      exact ⟨_, rfl, hown, hbl⟩
end Go.Proofs.Ytlihiiaabfkhaaa
