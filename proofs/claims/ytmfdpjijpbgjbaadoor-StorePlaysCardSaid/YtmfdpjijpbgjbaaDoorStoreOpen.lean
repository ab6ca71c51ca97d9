/- A record that is kept: what Open does. -/
import Derived.Test.YtmfdpjijpbgjbaaDoorStoreRead
import Derived.Deep.CutBlock
namespace Go.Proofs.YtmfdpjijpbgjbaaDoor
open Go.RowKit
set_option linter.unusedSimpArgs false

abbrev StoreIs (w : World) (s b : Nat) (a : (Int × Int) × Int) : Prop := Blk w s [.pointer (some ⟨b, 0, none⟩), .int .i64 a.1.1, .int .i64 a.1.2, .int .i64 a.2] 83
def lookK (bs : List Int) : Nat → (Int × Int) × Int
  | 0 => ((0, 0), -1)
  | k + 1 => look (lookK bs k) k (slotOf bs k)
theorem lookK_ok {bs : List Int} (h : IsB bs) (k : Nat) : RecOk (lookK bs k).1 := by
  induction k with
  | zero => exact zero_ok
  | succ k ih => exact look_ok ih (fun _ => slotOf_ok h)
def OpenRel (w : World) (s b : Nat) (bs : List Int) (i : Value) (wr : World) : Prop := ∃ k : Nat, k ≤ 2 ∧ i = .int .i64 k ∧ StoreIs wr s b (lookK bs k) ∧ Below w.heap.size w wr
attribute [irreducible] OpenRel
def GivesStore (w : World) (b : Nat) (a : (Int × Int) × Int) (e : Ending) (w' : World) : Prop := ∃ s, e = .returned (.tuple #[.pointer (some ⟨s, 0, none⟩), .nilIface]) ∧ StoreIs w' s b a ∧ w.heap.size ≤ s ∧ Below w.heap.size w w'
set_option maxRecDepth 100000 in
set_option maxHeartbeats 4000000 in
theorem open_any {ad : Int → Addr} {b g : Nat} {c : Cl} (w : World) (hE : Errs4 ad w) (hc : CellIs w b g c) (hok : c.ok) (hd : c.down = false) (hp : 26 ≤ c.bs.length) (hl : c.bs.length ≤ 4096) :
    Calls Tryd.prog 28 #[.pointer (some ⟨b, 0, none⟩)] w (GivesStore w b (openR c.bs)) := by
  have HB : Hid (IsB c.bs) := hok.2.2
  have hp' : ¬ (c.bs.length : Int) < 26 := by omega
  go_enter Tryd.func28, Tryd.ntmps28
  go_wp2_with fail
  refine (size_any w hc).mono ?_
  rintro e w' ⟨rfl, rfl⟩
  have hs1 := Blk.new w [.pointer (some ⟨b, 0, none⟩), .int .i64 0, .int .i64 0, .int .i64 (-1)] 83
  have hb1 : Below w.heap.size w (w.alloc (.cells #[.pointer (some ⟨b, 0, none⟩), .int .i64 0, .int .i64 0, .int .i64 (-1)] 83)) := (Below.refl _ _).alloc (Nat.le_refl _) _
  have HS : Hid (StoreIs (w.alloc (.cells #[.pointer (some ⟨b, 0, none⟩), .int .i64 0, .int .i64 0, .int .i64 (-1)] 83)) w.heap.size b (lookK c.bs 0) ∧ Below w.heap.size w (w.alloc (.cells #[.pointer (some ⟨b, 0, none⟩), .int .i64 0, .int .i64 0, .int .i64 (-1)] 83))) := ⟨hs1, hb1⟩
  clear hs1 hb1
  go_wp2_with fail
  go_loopw [16] (fun i wr => OpenRel w w.heap.size b c.bs i wr) (fun i _ => 2 - (intOf i).toNat)
  case atStart => unfold OpenRel; exact ⟨0, by omega, rfl, HS.out.1, HS.out.2⟩
  case round =>
    unfold OpenRel at hrel
    obtain ⟨k, hk, rfl, hS, hB⟩ := hrel
    by_cases hlt : k < 2
    · have hr := read_any k wr (hE.below hB) (hc.below hB) hok hd (by omega) hl
      have HN : Hid (lookK c.bs (k + 1) = look (lookK c.bs k) k (slotOf c.bs k)) := rfl
      have hro : ∀ r, slotOf c.bs k = some r → RecOk r := fun r => slotOf_ok HB.out
      have hao := lookK_ok HB.out k
      obtain ⟨⟨⟨x, y⟩, z⟩, ha⟩ : ∃ a, lookK c.bs k = a := ⟨_, rfl⟩
      obtain ⟨o, ho⟩ : ∃ o, slotOf c.bs k = o := ⟨_, rfl⟩
      rw [ha] at hS hao HN
      rw [ho] at hr hro HN
      clear ha ho
      cases o with
      | none =>
        clear hro
        have hr : Calls Tryd.prog 40 #[.pointer (some ⟨b, 0, none⟩), .int .i64 k] wr fun e w' => e = .returned (.tuple #[.agg #[.int .i64 0, .int .i64 0], .bool false, .nilIface]) ∧ Below wr.heap.size wr w' := hr
        go_wp2_with fail
        refine hr.mono ?_
        rintro e w1 ⟨rfl, hb1⟩
        have hB1 := hB.trans (hb1.mono hB.size)
        have hS1 := (Eff.of_below (S := fun _ => False) hb1).blk hS (fun h => h)
        have HS1 := hid hS1
        clear hr hS hB hb1
        go_wp2_with fail
        go_quiet (fail)
        have hb2 := below_drewN (hB1.alloc hB1.size (.cells #[.int .i64 0, .int .i64 0] 59)) nq
        have hS3 := (Eff.of_below (S := fun _ => False) (below_drewN ((Below.refl _ _).alloc (Nat.le_refl w1.heap.size) (.cells #[.int .i64 0, .int .i64 0] 59)) nq)).blk HS1.out (fun h => h)
        go_wp2_with fail
        go_roundw
        case rel => unfold OpenRel; exact ⟨k + 1, by omega, by go_num, by rw [HN.out]; exact hS3, hb2⟩
        case measure => simp [intOf]; omega
      | some r =>
        obtain ⟨rx, ry⟩ := r
        have hr : Calls Tryd.prog 40 #[.pointer (some ⟨b, 0, none⟩), .int .i64 k] wr fun e w' => e = .returned (.tuple #[.agg #[.int .i64 rx, .int .i64 ry], .bool true, .nilIface]) ∧ Below wr.heap.size wr w' := hr
        obtain ⟨rx0, rx1, ry0, ry1⟩ := hro _ rfl
        obtain ⟨x0, x1, y0, y1⟩ := hao
        simp only at rx0 rx1 ry0 ry1 x0 x1 y0 y1
        go_wp2_with fail
        refine hr.mono ?_
        rintro e w1 ⟨rfl, hb1⟩
        have hB1 := hB.trans (hb1.mono hB.size)
        have hS1 := (Eff.of_below (S := fun _ => False) hb1).blk hS (fun h => h)
        have HS1 := hid hS1
        clear hr hS hB hb1
        go_wp2_with fail
        have hlt1 : w.heap.size < w1.heap.size := HS1.out.lt
        have hb2 := hB1.alloc hB1.size (.cells #[.int .i64 rx, .int .i64 ry] 59)
        have hS2 := (Eff.of_below (S := fun _ => False) ((Below.refl _ _).alloc (Nat.le_refl w1.heap.size) (.cells #[.int .i64 rx, .int .i64 ry] 59))).blk HS1.out (fun h => h)
        have hT2 := Blk.new w1 [.int .i64 rx, .int .i64 ry] 59
        have hT2 : Blk (w1.alloc (.cells #[.int .i64 rx, .int .i64 ry] 59)) w1.heap.size [.int .i64 rx, .int .i64 ry] 59 := hT2
        generalize w1.alloc (.cells #[.int .i64 rx, .int .i64 ry] 59) = w2 at *
        generalize w1.heap.size = t at *
        have t0 : w2.cell? ⟨t, 0, none⟩ = some (.int .i64 rx) := hT2.cell 0
        have t1 : w2.cell? ⟨t, 1, none⟩ = some (.int .i64 ry) := hT2.cell 1
        have s1 : w2.cell? ⟨w.heap.size, 1, none⟩ = some (.int .i64 x) := hS2.cell 1
        have s2 : w2.cell? ⟨w.heap.size, 2, none⟩ = some (.int .i64 y) := hS2.cell 2
        have s3 : w2.cell? ⟨w.heap.size, 3, none⟩ = some (.int .i64 z) := hS2.cell 3
        have hf : ∀ o, w2.frozen? ⟨w.heap.size, o, none⟩ = false := hS2.frozen
        have HW := hid (And.intro hb2 (And.intro hS2 hT2))
        have hsum1 : IntKind.i64.wrap (rx + ry) = rx + ry := by rw [IntKind.wrap_i64]; omega
        have hsum2 : IntKind.i64.wrap (x + y) = x + y := by rw [IntKind.wrap_i64]; omega
        clear hb2 hS2 hT2 hB1 HS1
        by_cases hz : z < 0
        · have hl : look ((x, y), z) k (some (rx, ry)) = ((rx, ry), (k : Int)) := if_pos (.inl hz)
          rw [hl] at HN
          clear hl
          go_quiet (fail)
          go_wp2_with fail
          have hb3 := below_drewN HW.out.1 nq
          have hS3 := (Eff.of_below (S := fun _ => False) (below_drewN (Below.refl w2.heap.size w2) nq)).blk HW.out.2.1 (fun h => h)
          have hS4 := ((hS3.set 1 (.int .i64 rx)).set 2 (.int .i64 ry)).set 3 (.int .i64 k)
          have hb4 := ((hb3.setCell (p := ⟨w.heap.size, 1, none⟩) (Nat.le_refl _) (.int .i64 rx)).setCell (p := ⟨w.heap.size, 2, none⟩) (Nat.le_refl _) (.int .i64 ry)).setCell (p := ⟨w.heap.size, 3, none⟩) (Nat.le_refl _) (.int .i64 k)
          go_roundw
          case rel => unfold OpenRel; exact ⟨k + 1, by omega, by go_num, by rw [HN.out]; exact hS4, hb4⟩
          case measure => simp [intOf]; omega
        · by_cases hgt : x + y < rx + ry
          · have hl : look ((x, y), z) k (some (rx, ry)) = ((rx, ry), (k : Int)) := if_pos (.inr hgt)
            rw [hl] at HN
            clear hl
            go_quiet (fail)
            go_wp2_with fail
            have hb3 := below_drewN HW.out.1 nq
            have hS3 := (Eff.of_below (S := fun _ => False) (below_drewN (Below.refl w2.heap.size w2) nq)).blk HW.out.2.1 (fun h => h)
            have hS4 := ((hS3.set 1 (.int .i64 rx)).set 2 (.int .i64 ry)).set 3 (.int .i64 k)
            have hb4 := ((hb3.setCell (p := ⟨w.heap.size, 1, none⟩) (Nat.le_refl _) (.int .i64 rx)).setCell (p := ⟨w.heap.size, 2, none⟩) (Nat.le_refl _) (.int .i64 ry)).setCell (p := ⟨w.heap.size, 3, none⟩) (Nat.le_refl _) (.int .i64 k)
            go_roundw
            case rel => unfold OpenRel; exact ⟨k + 1, by omega, by go_num, by rw [HN.out]; exact hS4, hb4⟩
            case measure => simp [intOf]; omega
          · have hl : look ((x, y), z) k (some (rx, ry)) = ((x, y), z) := if_neg (fun h => h.elim hz hgt)
            rw [hl] at HN
            clear hl
            go_quiet (fail)
            go_wp2_with fail
            have hb3 := below_drewN HW.out.1 nq
            have hS3 := (Eff.of_below (S := fun _ => False) (below_drewN (Below.refl w2.heap.size w2) nq)).blk HW.out.2.1 (fun h => h)
            go_roundw
            case rel => unfold OpenRel; exact ⟨k + 1, by omega, by go_num, by rw [HN.out]; exact hS3, hb3⟩
            case measure => simp [intOf]; omega
    · obtain rfl : k = 2 := by omega
      go_wp2_with fail
      go_ret2
      exact ⟨w.heap.size, rfl, hS, Nat.le_refl _, hB⟩
end Go.Proofs.YtmfdpjijpbgjbaaDoor
