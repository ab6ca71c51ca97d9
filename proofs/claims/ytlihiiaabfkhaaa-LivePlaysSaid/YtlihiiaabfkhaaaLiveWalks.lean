/- What each function of the table of who is alive does to memory. -/
import Derived.Test.YtlihiiaabfkhaaaRows
import Derived.Test.YtlihiiaabfkhaaaLivePure
namespace Go.Proofs.Ytlihiiaabfkhaaa
open Go.RowKit

set_option maxHeartbeats 400000 in
theorem car_any (n : Int) (w : World) :
    Calls Try.prog 20 #[.int .i64 n] w fun e w' => e = .returned (.bool (decide (0 ≤ n) && decide (n < 16))) ∧ w = w' := by
  go_enter Try.func20, Try.ntmps20
  go_wp2
  · go_ret
    have h : 0 ≤ n := by assumption
    exact ⟨by simp [h], rfl⟩
  · go_ret
    have h : n < 0 := by assumption
    exact ⟨by have h' : ¬ 0 ≤ n := by omega
              simp [h'], rfl⟩

theorem hear_put {b : Nat} {t : Tab} {w : World} (hb : Blk w b t.cells 28) (hl : t.l.length = 16) {k : Nat} (hk : k < t.l.length) (out : Bool) (life : Int) : ∀ seen : Int,
    Blk ((((((w.setCell ⟨b, k * 5, none⟩ (.bool true)).setCell ⟨b, k * 5 + 1, none⟩ (.bool true)).setCell ⟨b, k * 5 + 2, none⟩ (.bool out)).setCell ⟨b, k * 5 + 3, none⟩ (.int .i64 life)).setCell ⟨b, k * 5 + 4, none⟩ (.int .i64 0)).setCell ⟨b, 80, none⟩ (.int .i64 seen))
      b (Tab.mk (t.l.set k ⟨true, true, out, life, 0⟩) seen).cells 28 ∧
    Eff (· = b) w ((((((w.setCell ⟨b, k * 5, none⟩ (.bool true)).setCell ⟨b, k * 5 + 1, none⟩ (.bool true)).setCell ⟨b, k * 5 + 2, none⟩ (.bool out)).setCell ⟨b, k * 5 + 3, none⟩ (.int .i64 life)).setCell ⟨b, k * 5 + 4, none⟩ (.int .i64 0)).setCell ⟨b, 80, none⟩ (.int .i64 seen)) := by
  intro seen
  refine ⟨?_, (((((Eff.one b w).set _ _).set _ _).set _ _).set _ _).set _ _ |>.set _ _⟩
  have h := (((((hb.set (k * 5) (.bool true)).set (k * 5 + 1) (.bool true)).set (k * 5 + 2) (.bool out)).set (k * 5 + 3) (.int .i64 life)).set (k * 5 + 4) (.int .i64 0)).set 80 (.int .i64 seen)
  have e := Tab.set_five t hk ⟨true, true, out, life, 0⟩
  rw [e, Tab.set_seen _ (by simpa [Tab.put] using hl)] at h
  exact h

set_option maxHeartbeats 400000 in
theorem hear_yes {b : Nat} {t : Tab} (ht : t.ok) (n life seen : Int) (out : Bool) (w : World) (hb : Blk w b t.cells 28) (hy : t.takes n life seen = true) :
    Calls Try.prog 9 #[.pointer (some ⟨b, 0, none⟩), .int .i64 n, .int .i64 life, .int .i64 seen, .bool out] w fun e w' =>
      e = .returned (.bool true) ∧ Blk w' b (t.hear n life seen out).cells 28 ∧ Eff (· = b) w w' := by
  have hh : (t.hear n life seen out) = ⟨t.l.set n.toNat ⟨true, true, out, life, 0⟩, max t.seen seen⟩ := by simp [Tab.hear, hy]
  rw [hh]
  clear hh
  simp only [Tab.takes, Bool.and_eq_true, decide_eq_true_eq, Bool.not_eq_true', Bool.and_eq_false_iff, decide_eq_false_iff_not] at hy
  obtain ⟨⟨⟨⟨h0, h1⟩, h2⟩, h3⟩, h4⟩ := hy
  have hl := ht.1
  have hk : n.toNat < t.l.length := by omega
  have c0 : w.cell? ⟨b, n.toNat * 5, none⟩ = some (.bool (t.at n.toNat).known) := hb.cell_some (Tab.cell t hk (j := 0) (by omega))
  have c1 : w.cell? ⟨b, n.toNat * 5 + 1, none⟩ = some (.bool (t.at n.toNat).heard) := hb.cell_some (Tab.cell t hk (j := 1) (by omega))
  have c2 : w.cell? ⟨b, n.toNat * 5 + 2, none⟩ = some (.bool (t.at n.toNat).out) := hb.cell_some (Tab.cell t hk (j := 2) (by omega))
  have c3 : w.cell? ⟨b, n.toNat * 5 + 3, none⟩ = some (.int .i64 (t.at n.toNat).life) := hb.cell_some (Tab.cell t hk (j := 3) (by omega))
  have c4 : w.cell? ⟨b, n.toNat * 5 + 4, none⟩ = some (.int .i64 (t.at n.toNat).age) := hb.cell_some (Tab.cell t hk (j := 4) (by omega))
  have c5 : w.cell? ⟨b, 80, none⟩ = some (.int .i64 t.seen) := hb.cell_some (Tab.cell_seen t hl)
  have hf : ∀ o, w.frozen? ⟨b, o, none⟩ = false := hb.frozen
  have hp := hear_put hb hl hk out life
  have HB := hid hb
  have HL := hid hl
  clear hb hl ht
  cases hkn : (t.at n.toNat).known with
  | false =>
    rw [hkn] at c0
    clear h4
    have HK := hid hkn
    clear hkn
    go_enter Try.func9, Try.ntmps9
    go_wp2_with (go_at_call 20; refine (car_any _ _).mono ?_; rintro e w' ⟨rfl, rfl⟩)
    all_goals go_ret
    · have h : t.seen < seen := by assumption
      rw [Int.max_eq_right (by omega)]
      exact ⟨rfl, hp _⟩
    · have h : seen ≤ t.seen := by assumption
      rw [Int.max_eq_left h]
      exact ⟨rfl, hp _⟩
  | true =>
    rw [hkn] at c0
    have h5 : ¬ life < (t.at n.toNat).life := by simpa [hkn] using h4
    clear h4
    have HK := hid hkn
    clear hkn
    go_enter Try.func9, Try.ntmps9
    go_wp2_with (go_at_call 20; refine (car_any _ _).mono ?_; rintro e w' ⟨rfl, rfl⟩)
    all_goals go_ret
    · have h : t.seen < seen := by assumption
      rw [Int.max_eq_right (by omega)]
      exact ⟨rfl, hp _⟩
    · have h : seen ≤ t.seen := by assumption
      rw [Int.max_eq_left h]
      exact ⟨rfl, hp _⟩

set_option maxHeartbeats 800000 in
theorem hear_no {b : Nat} {t : Tab} (ht : t.ok) (n life seen : Int) (out : Bool) (w : World) (hb : Blk w b t.cells 28) (hy : t.takes n life seen = false) :
    Calls Try.prog 9 #[.pointer (some ⟨b, 0, none⟩), .int .i64 n, .int .i64 life, .int .i64 seen, .bool out] w fun e w' =>
      e = .returned (.bool false) ∧ w = w' := by
  by_cases h0 : 0 ≤ n ∧ n < 16
  · obtain ⟨h0, h1⟩ := h0
    by_cases h2 : life < 0
    · go_enter Try.func9, Try.ntmps9
      go_wp2_with (go_at_call 20; refine (car_any _ _).mono ?_; rintro e w' ⟨rfl, rfl⟩)
      go_ret
      exact ⟨rfl, rfl⟩
    by_cases h3 : seen < 0
    · go_enter Try.func9, Try.ntmps9
      go_wp2_with (go_at_call 20; refine (car_any _ _).mono ?_; rintro e w' ⟨rfl, rfl⟩)
      go_ret
      exact ⟨rfl, rfl⟩
    have hl := ht.1
    have hk : n.toNat < t.l.length := by omega
    have c0 : w.cell? ⟨b, n.toNat * 5, none⟩ = some (.bool (t.at n.toNat).known) := hb.cell_some (Tab.cell t hk (j := 0) (by omega))
    have c3 : w.cell? ⟨b, n.toNat * 5 + 3, none⟩ = some (.int .i64 (t.at n.toNat).life) := hb.cell_some (Tab.cell t hk (j := 3) (by omega))
    have h4 : 0 ≤ life := by omega
    have h5 : 0 ≤ seen := by omega
    simp [Tab.takes, h0, h1, h4, h5] at hy
    obtain ⟨hy1, hy2⟩ := hy
    rw [hy1] at c0
    clear hl hy1 ht
    go_enter Try.func9, Try.ntmps9
    go_wp2_with (go_at_call 20; refine (car_any _ _).mono ?_; rintro e w' ⟨rfl, rfl⟩)
    go_ret
    exact ⟨rfl, rfl⟩
  · clear hy
    have h0 : (decide (0 ≤ n) && decide (n < 16)) = false := by simp; omega
    go_enter Try.func9, Try.ntmps9
    go_wp2_with (go_at_call 20; refine (car_any _ _).mono ?_; rintro e w' ⟨rfl, rfl⟩)
    go_ret
    exact ⟨rfl, rfl⟩
end Go.Proofs.Ytlihiiaabfkhaaa
