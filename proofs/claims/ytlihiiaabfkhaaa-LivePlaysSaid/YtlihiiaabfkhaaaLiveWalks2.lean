/- What each function of the table of who is alive does to memory: the second part. -/
import Derived.Test.YtlihiiaabfkhaaaLiveWalks
namespace Go.Proofs.Ytlihiiaabfkhaaa
open Go.RowKit

theorem tick_put {b : Nat} {t : Tab} {w : World} (hb : Blk w b t.cells 28) {k : Nat} (hk : k < t.l.length) (hh : (t.at k).heard = true) :
    Blk ((w.setCell ⟨b, k * 5 + 4, none⟩ (.int .i64 ((t.at k).age + 1))).setCell ⟨b, k * 5 + 1, none⟩ (.bool (decide ((t.at k).age + 1 ≤ 3)))) b (t.put k (t.at k).tick).cells 28 := by
  have h := (hb.set (k * 5 + 4) (.int .i64 ((t.at k).age + 1))).set (k * 5 + 1) (.bool (decide ((t.at k).age + 1 ≤ 3)))
  have hl : ∀ x, (t.put k x).l.length = t.l.length := fun x => by simp [Tab.put]
  rw [Tab.set_cell t hk (j := 4) (by omega) _ { t.at k with age := (t.at k).age + 1 } rfl,
    Tab.set_cell _ (by rw [hl]; exact hk) (j := 1) (by omega) _ { t.at k with age := (t.at k).age + 1, heard := decide ((t.at k).age + 1 ≤ 3) } (by rw [Tab.at_put t hk]; rfl), Tab.put_put] at h
  have e : (t.at k).tick = { t.at k with age := (t.at k).age + 1, heard := decide ((t.at k).age + 1 ≤ 3) } := by simp [One.tick, hh]
  rw [e]
  exact h
theorem put_self {t : Tab} {k : Nat} (hk : k < t.l.length) : t.put k (t.at k) = t := by
  have e : t.at k = t.l[k] := by simp [Tab.at, List.getD_eq_getElem?_getD, List.getElem?_eq_getElem hk]
  simp [Tab.put, e]

def TickRel (t : Tab) (b : Nat) (w : World) (i : Value) (wr : World) : Prop := ∃ k : Nat, k ≤ 16 ∧ i = .int .i64 k ∧ Blk wr b (t.tickTo k).cells 28 ∧ Eff (· = b) w wr

set_option maxHeartbeats 400000 in
theorem tick_any {b : Nat} {t : Tab} (ht : t.ok) (w : World) (hb : Blk w b t.cells 28) :
    Calls Try.prog 10 #[.pointer (some ⟨b, 0, none⟩)] w fun e w' => e = .returned (.tuple #[]) ∧ Blk w' b t.tick.cells 28 ∧ Eff (· = b) w w' := by
  have HL := hid ht.1
  go_enter Try.func10, Try.ntmps10
  go_wp2
  go_loopw [4] (fun i wr => TickRel t b w i wr) (fun i _ => 16 - (intOf i).toNat)
  case atStart => exact ⟨0, by omega, rfl, by rw [Tab.tickTo_zero]; exact hb, Eff.refl _ _⟩
  case round =>
    obtain ⟨k, hk, rfl, hbr, he⟩ := hrel
    by_cases hlt : k < 16
    · have hkl : k < t.l.length := by rw [HL.out]; exact hlt
      have hkr : k < (t.tickTo k).l.length := by rw [Tab.tickTo_len]; exact hkl
      have hat := Tab.tickTo_at t hkl
      have c1 : wr.cell? ⟨b, k * 5 + 1, none⟩ = some (.bool (t.at k).heard) := hat ▸ hbr.cell_some (Tab.cell (t.tickTo k) hkr (j := 1) (by omega))
      have c4 : wr.cell? ⟨b, k * 5 + 4, none⟩ = some (.int .i64 (t.at k).age) := hat ▸ hbr.cell_some (Tab.cell (t.tickTo k) hkr (j := 4) (by omega))
      have hf : ∀ o, wr.frozen? ⟨b, o, none⟩ = false := hbr.frozen
      obtain ⟨a0, a1, a2⟩ := Tab.at_ok ht hlt
      have HS := hid (Tab.tickTo_succ t hkl)
      have HA := hid hat
      clear hat
      cases hh : (t.at k).heard with
      | false =>
        rw [hh] at c1
        have HH := hid hh
        clear hh
        go_wp2
        go_roundw
        case rel =>
          refine ⟨k + 1, by omega, by go_num, ?_, he⟩
          have e : (t.at k).tick = t.at k := by simp [One.tick, HH.out]
          rw [HS.out, e, ← HA.out, put_self hkr]
          exact hbr
        case measure => simp [intOf]; omega
      | true =>
        rw [hh] at c1
        have a3 := a2 hh
        have hp := tick_put hbr hkr (by rw [HA.out]; exact hh)
        rw [HA.out] at hp
        have HH := hid hh
        clear hh
        go_wp2
        go_roundw
        case rel =>
          refine ⟨k + 1, by omega, by go_num, ?_, (he.set _ _).set _ _⟩
          rw [HS.out]
          exact hp
        case measure => simp [intOf]; omega
    · have hk16 : k = 16 := by omega
      subst hk16
      go_wp2
      go_end0
      rw [Tab.tickTo_all t HL.out] at hbr
      exact ⟨rfl, hbr, he⟩
end Go.Proofs.Ytlihiiaabfkhaaa
