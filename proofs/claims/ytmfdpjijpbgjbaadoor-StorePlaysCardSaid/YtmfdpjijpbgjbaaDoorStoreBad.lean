/- A record that is kept: the record; what is amiss with one; a memory that is too small. -/
import Derived.Test.YtmfdpjijpbgjbaaDoorStoreOpen
namespace Go.Proofs.YtmfdpjijpbgjbaaDoor
open Go.RowKit
set_option linter.unusedSimpArgs false

set_option maxHeartbeats 800000 in
theorem openSmall_any {ad : Int → Addr} {b g : Nat} {c : Cl} (w : World) (hE : Errs4 ad w) (hc : CellIs w b g c) (hp : c.bs.length < 26) :
    Calls Tryd.prog 28 #[.pointer (some ⟨b, 0, none⟩)] w fun e w' => e = .returned (.tuple #[.pointer none, errV ad 103]) ∧ ∃ q, w' = w.drewN q := by
  have hp' : (c.bs.length : Int) < 26 := by omega
  have hr := hE.range
  have hsz := size_any w hc
  clear hE hc
  go_enter Tryd.func28, Tryd.ntmps28
  go_wp2_with fail
  refine hsz.mono ?_
  rintro e w' ⟨rfl, rfl⟩
  go_wp2_with fail
  go_quiet (fail)
  go_wp2_with fail
  go_ret2
  exact ⟨rfl, _, rfl⟩
def GivesRec (w : World) (r : Int × Int) (e : Ending) (w' : World) : Prop := e = .returned (.agg #[.int .i64 r.1, .int .i64 r.2]) ∧ Below w.heap.size w w'
set_option maxHeartbeats 800000 in
theorem record_any {s b : Nat} {a : (Int × Int) × Int} (w : World) (hs : StoreIs w s b a) : Calls Tryd.prog 32 #[.pointer (some ⟨s, 0, none⟩)] w (GivesRec w a.1) := by
  obtain ⟨⟨x, y⟩, z⟩ := a
  have s1 : w.cell? ⟨s, 1, none⟩ = some (.int .i64 x) := hs.cell 1
  have s2 : w.cell? ⟨s, 2, none⟩ = some (.int .i64 y) := hs.cell 2
  have hlt := hs.lt
  clear hs
  go_enter Tryd.func32, Tryd.ntmps32
  go_wp2_with fail
  go_returns
  exact ⟨rfl, (Below.refl _ _).alloc (Nat.le_refl _) _⟩
/-- What is amiss: the error's number. -/
def badE (a r : Int × Int) : Int := if r.1 < 0 ∨ 281474976710655 < r.1 ∨ r.2 < 0 ∨ 281474976710655 < r.2 then 103 else if r.1 < a.1 ∨ r.2 < a.2 ∨ r = a then 108 else 0
def GivesErr (ad : Int → Addr) (w : World) (k : Int) (e : Ending) (w' : World) : Prop := e = .returned (errV ad k) ∧ Below w.heap.size w w'
set_option maxRecDepth 100000 in
set_option maxHeartbeats 4000000 in
theorem bad_any {ad : Int → Addr} {s b : Nat} {a : (Int × Int) × Int} (r : Int × Int) (w : World) (hE : Errs4 ad w) (hs : StoreIs w s b a) :
    Calls Tryd.prog 42 #[.pointer (some ⟨s, 0, none⟩), .agg #[.int .i64 r.1, .int .i64 r.2]] w (GivesErr ad w (badE a.1 r)) := by
  obtain ⟨⟨x, y⟩, z⟩ := a
  obtain ⟨p, q⟩ := r
  have s1 : w.cell? ⟨s, 1, none⟩ = some (.int .i64 x) := hs.cell 1
  have s2 : w.cell? ⟨s, 2, none⟩ = some (.int .i64 y) := hs.cell 2
  have g1 : w.cell? ⟨0, 0, none⟩ = some (.iface 103 (.pointer (some (ad 103)))) := hE.range
  have g2 : w.cell? ⟨3, 0, none⟩ = some (.iface 103 (.pointer (some (ad 108)))) := hE.order
  have hlt := hs.lt
  have l1 := lt_of_cell g1
  have l2 := lt_of_cell g2
  have hb1 := (Below.refl w.heap.size w).alloc (Nat.le_refl _) (.cells #[.int .i64 p, .int .i64 q] 59)
  clear hs hE
  by_cases hr : p < 0 ∨ 281474976710655 < p ∨ q < 0 ∨ 281474976710655 < q
  · have he : badE (x, y) (p, q) = 103 := if_pos hr
    show Calls _ _ _ _ (GivesErr ad w (badE (x, y) (p, q)))
    rw [he]
    clear he
    have hcut : p < 0 ∨ (0 ≤ p ∧ 281474976710655 < p) ∨ (0 ≤ p ∧ p ≤ 281474976710655 ∧ q < 0) ∨ (0 ≤ p ∧ p ≤ 281474976710655 ∧ 0 ≤ q ∧ 281474976710655 < q) := by omega
    clear hr
    rcases hcut with h1 | ⟨h1, h2⟩ | ⟨h1, h2, h3⟩ | ⟨h1, h2, h3, h4⟩
    all_goals
      go_enter Tryd.func42, Tryd.ntmps42
      go_wp2_with fail
      go_ret
      exact ⟨rfl, hb1⟩
  · have h1 : 0 ≤ p := by omega
    have h2 : p ≤ 281474976710655 := by omega
    have h3 : 0 ≤ q := by omega
    have h4 : q ≤ 281474976710655 := by omega
    by_cases ho : p < x ∨ q < y ∨ (p, q) = (x, y)
    · have he : badE (x, y) (p, q) = 108 := (if_neg hr).trans (if_pos ho)
      show Calls _ _ _ _ (GivesErr ad w (badE (x, y) (p, q)))
      rw [he]
      clear he hr
      have hcut : p < x ∨ (x ≤ p ∧ q < y) ∨ (x = p ∧ y = q) := by
        rcases ho with h | h | h
        · exact .inl h
        · by_cases h5 : p < x
          · exact .inl h5
          · exact .inr (.inl ⟨by omega, h⟩)
        · simp only [Prod.mk.injEq] at h
          exact .inr (.inr ⟨by omega, by omega⟩)
      clear ho
      rcases hcut with h5 | ⟨h5, h6⟩ | ⟨rfl, rfl⟩
      all_goals
        go_enter Tryd.func42, Tryd.ntmps42
        go_wp2_with fail
        go_quiet (fail)
        go_wp2_with fail
        go_ret
        exact ⟨rfl, below_drewN hb1 _⟩
    · have he : badE (x, y) (p, q) = 0 := (if_neg hr).trans (if_neg ho)
      show Calls _ _ _ _ (GivesErr ad w (badE (x, y) (p, q)))
      rw [he]
      clear he hr
      have h5 : x ≤ p := by omega
      have h6 : y ≤ q := by omega
      by_cases hpx : p = x
      · have hqy : ¬ q = y := fun h => ho (.inr (.inr (by rw [hpx, h])))
        subst hpx
        have h7 : (q == y) = false := by simpa using hqy
        clear ho hqy
        go_enter Tryd.func42, Tryd.ntmps42
        go_wp2_with fail
        go_quiet (fail)
        go_wp2_with fail
        go_ret
        exact ⟨rfl, below_drewN hb1 _⟩
      · have h7 : (p == x) = false := by simpa using hpx
        clear ho hpx
        go_enter Tryd.func42, Tryd.ntmps42
        go_wp2_with fail
        go_quiet (fail)
        go_wp2_with fail
        go_ret
        exact ⟨rfl, below_drewN hb1 _⟩
end Go.Proofs.YtmfdpjijpbgjbaaDoor
