/- Frames on their way: two that stand in each other's place. -/
import Derived.Test.YtnhfnklbeifbhaaMailWalks
import Derived.BigRegion
namespace Go.Proofs.Ytnhfnklbeifbhaa
open Go.RowKit
set_option linter.unusedSimpArgs false

theorem not_is {its : List It} {i : Int} (h : ¬ (0 ≤ i ∧ i < its.length)) : (decide (0 ≤ i) && decide (i < (its.length : Int))) = false := by simp; omega
theorem is_in {its : List It} {i : Int} (h : 0 ≤ i ∧ i < its.length) : (decide (0 ≤ i) && decide (i < (its.length : Int))) = true := by simp; omega

set_option maxHeartbeats 1600000 in
theorem swapNo_any {b : Nat} {v : Value} {its : List It} {lost : Int} (i k : Int) (w : World) (hm : MailIs w b v its lost) (hn : ¬ ((0 ≤ i ∧ i < its.length) ∧ (0 ≤ k ∧ k < its.length))) :
    Calls Try.prog 15 #[.pointer (some ⟨b, 0, none⟩), .int .i64 i, .int .i64 k] w fun e w' => e = .returned (.bool false) ∧ w = w' := by
  have HM := hid hm
  clear hm
  by_cases h1 : 0 ≤ i ∧ i < its.length
  · have h2 : ¬ (0 ≤ k ∧ k < its.length) := fun h => hn ⟨h1, h⟩
    have H1 := hid (is_in h1)
    have H2 := hid (not_is h2)
    clear h1 h2 hn
    go_enter Try.func15, Try.ntmps15
    go_wp2_with fail
    refine (is_any i w HM.out).mono ?_
    rintro e w' ⟨rfl, rfl⟩
    rw [H1.out]
    go_wp2_with fail
    refine (is_any k w HM.out).mono ?_
    rintro e w' ⟨rfl, rfl⟩
    rw [H2.out]
    go_wp2_with fail
    go_ret
    exact ⟨rfl, rfl⟩
  · have H1 := hid (not_is h1)
    clear h1 hn
    go_enter Try.func15, Try.ntmps15
    go_wp2_with fail
    refine (is_any i w HM.out).mono ?_
    rintro e w' ⟨rfl, rfl⟩
    rw [H1.out]
    go_wp2_with fail
    go_ret
    exact ⟨rfl, rfl⟩

def GivesSwap (w : World) (b : Nat) (v : Value) (its : List It) (lost : Int) (e : Ending) (w' : World) : Prop := e = .returned (.bool true) ∧ MailIs w' b v its lost ∧ Eff (MailOwn b v) w w'

theorem GivesSwap.drawn {w w' : World} {b : Nat} {v : Value} {its : List It} {lost : Int} {e : Ending} (h : GivesSwap w b v its lost e w') : GivesSwap w b v its lost e w'.drew := by
  obtain ⟨he, hm, h1⟩ := h
  exact ⟨he, hm.drew, h1.drew⟩

set_option maxRecDepth 100000 in
set_option maxHeartbeats 4000000 in
theorem swap_any {b : Nat} {v : Value} {its : List It} {lost : Int} (i k : Nat) (x y : It) (w : World) (hm : MailIs w b v its lost) (hx : its[i]? = some x) (hy : its[k]? = some y) :
    Calls Try.prog 15 #[.pointer (some ⟨b, 0, none⟩), .int .i64 i, .int .i64 k] w (GivesSwap w b v ((its.set i y).set k x) lost) := by
  have hi := (List.getElem?_eq_some_iff.1 hx).1
  have hk := (List.getElem?_eq_some_iff.1 hy).1
  obtain ⟨g, cap, rfl, hcap, hcm, x0, x1⟩ := row_item hm.row hx
  obtain ⟨g', cap', he, _, _, y0, y1⟩ := row_item hm.row hy
  simp only [Value.slice.injEq, Option.some.injEq, Addr.mk.injEq, and_true, true_and] at he
  obtain ⟨rfl, rfl⟩ := he
  have d0 : w.cell? ⟨b, 0, none⟩ = some (.slice (some ⟨g, 0, none⟩) its.length cap) := hm.blk.cell 0
  have hf : ∀ o, w.frozen? ⟨g, o, none⟩ = false := fun o => World.ownsRow.frozenAt hm.row o
  have H1 := hid (is_in (its := its) (i := i) ⟨by omega, by omega⟩)
  have H2 := hid (is_in (its := its) (i := k) ⟨by omega, by omega⟩)
  have HM := hid hm
  have hgb : ¬ g = b := fun h => hm.nb (by rw [h]; rfl)
  have i1 : (i : Int) < its.length := by omega
  have k1 : (k : Int) < its.length := by omega
  have hrow := World.ownsRow.stored hm.row (i * 2) (.int .i64 y.dst)
  have hrow2 := World.ownsRow.stored hrow.1 (i * 2 + 1) (.slice y.A y.bs.length y.c)
  have hrow3 := World.ownsRow.stored hrow2.1 (k * 2) (.int .i64 x.dst)
  have hrow4 := World.ownsRow.stored hrow3.1 (k * 2 + 1) (.slice x.A x.bs.length x.c)
  have he : Eff (fun j => j = g) w ((((w.setCell ⟨g, i * 2, none⟩ (.int .i64 y.dst)).setCell ⟨g, i * 2 + 1, none⟩ (.slice y.A y.bs.length y.c)).setCell ⟨g, k * 2, none⟩ (.int .i64 x.dst)).setCell ⟨g, k * 2 + 1, none⟩ (.slice x.A x.bs.length x.c)) :=
    ((((Eff.one g w).set _ _).set _ _).set _ _).set _ _
  have hr := hrow4.1
  rw [flat_put its i y hi, flat_put (its.set i y) k x (by simpa using hk)] at hr
  have HS : Hid (GivesSwap w b (.slice (some ⟨g, 0, none⟩) its.length cap) ((its.set i y).set k x) lost (.returned (.bool true)) ((((w.setCell ⟨g, i * 2, none⟩ (.int .i64 y.dst)).setCell ⟨g, i * 2 + 1, none⟩ (.slice y.A y.bs.length y.c)).setCell ⟨g, k * 2, none⟩ (.int .i64 x.dst)).setCell ⟨g, k * 2 + 1, none⟩ (.slice x.A x.bs.length x.c))) := by
    have hmem : ∀ z ∈ (its.set i y).set k x, z ∈ its := fun z hz => by
      rcases List.mem_or_eq_of_mem_set hz with hz | rfl
      · rcases List.mem_or_eq_of_mem_set hz with hz | rfl
        · exact hz
        · exact List.mem_of_getElem? hy
      · exact List.mem_of_getElem? hx
    refine ⟨rfl, ⟨he.blk hm.blk (fun h => hm.nb (by rw [h]; rfl)), by simpa using hr, hm.nb, fun z hz => ?_, fun z hz => hm.off z (hmem z hz), fun z hz a ha => Nat.lt_of_lt_of_le (hm.old z (hmem z hz) a ha) he.size, fun z hz => (hm.free z (hmem z hz)).eff he (fun a ha h => hm.off z (hmem z hz) a ha (.inr (by rw [h]; rfl))) (hm.old z (hmem z hz))⟩, he.mono (fun j _ h => .inr (by rw [h]; rfl))⟩
    exact (hm.here z (hmem z hz)).eff he (fun a ha h => hm.off z (hmem z hz) a ha (.inr (by rw [h]; rfl)))
  clear hrow hrow2 hrow3 hrow4 he hr
  unfold maxLen at hcm
  have hi2 : i = k → x = y := fun e => by subst e; exact Option.some.inj (hx.symm.trans hy)
  clear hm hx hy
  by_cases hik : i = k
  · obtain rfl := hi2 hik
    subst hik
    clear hi2 y0 y1 H2
    go_enter Try.func15, Try.ntmps15
    go_wp2_with fail
    refine (is_any _ w HM.out).mono ?_
    rintro e w' ⟨rfl, rfl⟩
    rw [H1.out]
    go_wp2_with fail
    refine (is_any _ w HM.out).mono ?_
    rintro e w' ⟨rfl, rfl⟩
    rw [H1.out]
    go_wp2_with fail
    go_region
    all_goals
      go_wp2_with fail
      go_ret
      exact HS.out.drawn
  · have n1 : ¬ k * 2 = i * 2 := by omega
    have n2 : ¬ k * 2 = i * 2 + 1 := by omega
    have n3 : ¬ k * 2 + 1 = i * 2 := by omega
    have n4 : ¬ k * 2 + 1 = i * 2 + 1 := by omega
    clear hi2 hik
    go_enter Try.func15, Try.ntmps15
    go_wp2_with fail
    refine (is_any _ w HM.out).mono ?_
    rintro e w' ⟨rfl, rfl⟩
    rw [H1.out]
    go_wp2_with fail
    refine (is_any _ w HM.out).mono ?_
    rintro e w' ⟨rfl, rfl⟩
    rw [H2.out]
    go_wp2_with fail
    go_region
    all_goals
      go_wp2_with fail
      go_ret
      exact HS.out.drawn
end Go.Proofs.Ytnhfnklbeifbhaa
