/- A record that is read: what number and read do. -/
import Derived.Test.YtmfdpjijpbgjbaaDoorStorePure
import Derived.Test.YtmfdpjijpbgjbaaDoorCellWalks
import Derived.Handy
namespace Go.Proofs.YtmfdpjijpbgjbaaDoor
open Go.RowKit
set_option linter.unusedSimpArgs false

theorem Errs4.drewN {ad : Int → Addr} {w : World} (h : Errs4 ad w) (n : Nat) : Errs4 ad (w.drewN n) := h.below (below_drewN (Below.refl _ _) n)
theorem CellAt.drewN {T E : TypeId} {w : World} {b g : Nat} {c : Cl} (h : CellAt T E w b g c) (n : Nat) : CellAt T E (w.drewN n) b g c := h.below (below_drewN (Below.refl _ _) n)
theorem get_up {c : Cl} (hd : c.down = false) {i : Nat} (hi : i < c.bs.length) : c.get i = c.bs.getD i 0 ∧ c.getE i = 0 := by
  have h : c.is i = true := by simp [Cl.is, hi]
  simp [Cl.get, Cl.getE, hd, h]
def NumRel (w : World) (bs : List Int) (p : Nat) (v i : Value) (wr : World) : Prop := ∃ k : Nat, k ≤ 6 ∧ i = .int .i64 k ∧ v = .int .i64 (numK bs p k) ∧ ∃ q, wr = w.drewN q
attribute [irreducible] NumRel
def GivesTwo (w : World) (n : Int) (e : Ending) (w' : World) : Prop := e = .returned (.tuple #[.int .i64 n, .nilIface]) ∧ ∃ q, w' = w.drewN q
set_option maxHeartbeats 1600000 in
theorem sixN_any {ad : Int → Addr} {b g : Nat} {c : Cl} (p : Nat) (w : World) (hE : Errs4 ad w) (hc : CellIs w b g c) (hok : c.ok) (hd : c.down = false) (hp : p + 6 ≤ c.bs.length) (hl : c.bs.length ≤ 4096) :
    Calls Tryd.prog 46 #[.pointer (some ⟨b, 0, none⟩), .int .i64 p] w (GivesTwo w (six c.bs p)) := by
  have HB : Hid (IsB c.bs) := hok.2.2
  go_enter Tryd.func46, Tryd.ntmps46
  go_wp2_with fail
  go_loopw [6, 10] (fun v i wr => NumRel w c.bs p v i wr) (fun _ i _ => 6 - (intOf i).toNat)
  case atStart => unfold NumRel; exact ⟨0, by omega, rfl, rfl, 0, rfl⟩
  case round =>
    unfold NumRel at hrel
    obtain ⟨k, hk, rfl, rfl, q, rfl⟩ := hrel
    by_cases hlt : k < 6
    · have hg := get_any ((p : Int) + k) _ (hE.drewN q) (hc.drewN q)
      rw [show ((p : Int) + k) = ((p + k : Nat) : Int) from by omega, (get_up hd (show p + k < c.bs.length by omega)).1, (get_up hd (show p + k < c.bs.length by omega)).2] at hg
      have HV := hid (num_step HB.out p (show k ≤ 5 by omega))
      go_wp2_with fail
      refine hg.mono ?_
      rintro e w1 ⟨rfl, q1, rfl⟩
      rw [errV_zero]
      clear hg
      go_wp2_with fail
      go_roundw
      case rel => unfold NumRel; exact ⟨k + 1, by omega, by go_num, by rw [HV.out], q + q1, rfl⟩
      case measure => simp [intOf]; omega
    · obtain rfl : k = 6 := by omega
      go_wp2_with fail
      go_ret2
      exact ⟨rfl, q, rfl⟩

def recV (o : Option (Int × Int)) : Value := match o with
  | none => .agg #[.int .i64 0, .int .i64 0]
  | some r => .agg #[.int .i64 r.1, .int .i64 r.2]
def GivesRead (w : World) (o : Option (Int × Int)) (e : Ending) (w' : World) : Prop := e = .returned (.tuple #[recV o, .bool o.isSome, .nilIface]) ∧ Below w.heap.size w w'
set_option maxHeartbeats 1600000 in
theorem read_any {ad : Int → Addr} {b g : Nat} {c : Cl} (k : Nat) (w : World) (hE : Errs4 ad w) (hc : CellIs w b g c) (hok : c.ok) (hd : c.down = false) (hp : 13 * k + 13 ≤ c.bs.length) (hl : c.bs.length ≤ 4096) :
    Calls Tryd.prog 40 #[.pointer (some ⟨b, 0, none⟩), .int .i64 k] w (GivesRead w (slotOf c.bs k)) := by
  have h13 : 13 * k < 4096 := by omega
  have hb1 : Below w.heap.size w (w.alloc (.cells #[.int .i64 0, .int .i64 0] 59)) := (Below.refl _ _).alloc (Nat.le_refl _) _
  have hr1 := Blk.new w [.int .i64 0, .int .i64 0] 59
  have HR := hid hr1
  have hf : ∀ o, (w.alloc (.cells #[.int .i64 0, .int .i64 0] 59)).frozen? ⟨w.heap.size, o, none⟩ = false := hr1.frozen
  have hg := get_any ((k : Int) * 13) _ (hE.below hb1) (hc.below hb1)
  rw [show (k : Int) * 13 = ((13 * k : Nat) : Int) from by omega, (get_up hd (show 13 * k < c.bs.length by omega)).1, (get_up hd (show 13 * k < c.bs.length by omega)).2, errV_zero] at hg
  have hgk : ((13 * k : Nat) : Int) = (k : Int) * 13 := by omega
  rw [hgk] at hg
  clear hgk
  by_cases hm : c.bs.getD (13 * k) 0 = 1
  · rw [hm] at hg
    have hs : slotOf c.bs k = some (six c.bs (13 * k + 1), six c.bs (13 * k + 7)) := if_pos hm
    rw [hs]
    clear hm hs
    go_enter Tryd.func40, Tryd.ntmps40
    go_wp2_with fail
    refine hg.mono ?_
    rintro e w1 ⟨rfl, q1, rfl⟩
    have hb2 := below_drewN hb1 q1
    have hn := sixN_any (13 * k + 1) _ (hE.below hb2) (hc.below hb2) hok hd (by omega) hl
    rw [show ((13 * k + 1 : Nat) : Int) = (k : Int) * 13 + 1 from by omega] at hn
    clear hg
    go_wp2_with fail
    refine hn.mono ?_
    rintro e w1 ⟨rfl, q2, rfl⟩
    have hb3 := below_drewN hb2 q2
    rw [World.drewN_drewN] at hb3
    have hn2 := sixN_any (13 * k + 7) _ (hE.below hb3) (hc.below hb3) hok hd (by omega) hl
    rw [show ((13 * k + 7 : Nat) : Int) = (k : Int) * 13 + 1 + 6 from by omega] at hn2
    clear hn
    generalize six c.bs (13 * k + 1) = x1 at *
    generalize six c.bs (13 * k + 7) = x2 at *
    go_wp2_with fail
    refine hn2.mono ?_
    rintro e w1 ⟨rfl, q3, rfl⟩
    have hb4 := below_drewN hb3 q3
    rw [World.drewN_drewN] at hb4
    clear hn2
    go_wp2_with fail
    go_returns
    exact ⟨rfl, (hb4.setCell (Nat.le_refl _) _).setCell (Nat.le_refl _) _⟩
  · have hs : slotOf c.bs k = none := if_neg hm
    rw [hs]
    clear hs
    obtain ⟨m, hmm⟩ : ∃ m, c.bs.getD (13 * k) 0 = m := ⟨_, rfl⟩
    rw [hmm] at hg hm
    have hm' : (m != 1) = true := by simpa using hm
    clear hm hmm
    go_enter Tryd.func40, Tryd.ntmps40
    go_wp2_with fail
    refine hg.mono ?_
    rintro e w1 ⟨rfl, q1, rfl⟩
    have hb2 := below_drewN hb1 q1
    clear hg
    go_wp2_with fail
    go_returns
    exact ⟨rfl, (hb2.setCell (Nat.le_refl _) _).setCell (Nat.le_refl _) _⟩
end Go.Proofs.YtmfdpjijpbgjbaaDoor
