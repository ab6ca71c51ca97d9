/- Frames: a beat: whether it may be; its bytes. -/
import Derived.Test.YtogcbiooddodlaaDoorWireRowsPure
import Derived.Handy
namespace Go.Proofs.YtogcbiooddodlaaDoor
open Go.RowKit
set_option linter.unusedSimpArgs false

abbrev beatC (kind f t life seen : Int) (out : Bool) (hop : Int) : Array Value := #[.int .i64 kind, .int .i64 f, .int .i64 t, .int .i64 life, .int .i64 seen, .bool out, .int .i64 0, .int .i64 0, .int .i64 hop, .slice none 0 0, .slice none 0 0]
theorem car_any (n : Int) (w : World) (h : 0 ≤ n ∧ n < 16) : Calls Tryd.prog 50 #[.int .i64 n] w fun e w' => e = .returned (.bool true) ∧ w = w' := by
  obtain ⟨h1, h2⟩ := h
  go_enter Tryd.func50, Tryd.ntmps50
  go_wp2_with fail
  go_ret
  exact ⟨by first | (simp; done) | (simp; omega), rfl⟩
theorem numB_any (n : Int) (w : World) : Calls Tryd.prog 52 #[.int .i64 n] w fun e w' => e = .returned (.bool (decide (0 ≤ n ∧ n ≤ 281474976710655))) ∧ w = w' := by
  by_cases h1 : 0 ≤ n
  · by_cases h2 : n ≤ 281474976710655
    · have e : decide (0 ≤ n ∧ n ≤ 281474976710655) = true := by simp; omega
      rw [e]
      clear e
      go_enter Tryd.func52, Tryd.ntmps52
      go_wp2_with fail
      go_ret
      exact ⟨by first | (simp; done) | (simp; omega), rfl⟩
    · have e : decide (0 ≤ n ∧ n ≤ 281474976710655) = false := by simp; omega
      rw [e]
      clear e
      go_enter Tryd.func52, Tryd.ntmps52
      go_wp2_with fail
      go_ret
      exact ⟨by first | (simp; done) | (simp; omega), rfl⟩
  · have e : decide (0 ≤ n ∧ n ≤ 281474976710655) = false := by simp; omega
    rw [e]
    clear e
    go_enter Tryd.func52, Tryd.ntmps52
    go_wp2_with fail
    go_ret
    exact ⟨rfl, rfl⟩
def SaysB (w : World) (b : Bool) (e : Ending) (w' : World) : Prop := e = .returned (.bool b) ∧ Below w.heap.size w w'
set_option maxRecDepth 100000 in
set_option maxHeartbeats 1600000 in
theorem zero_any (hop : Int) (w : World) : Calls Tryd.prog 53 #[.agg #[.int .i64 0, .int .i64 0, .int .i64 hop, .slice none 0 0, .slice none 0 0]] w (SaysB w (decide (hop = 0))) := by
  have hb := (Below.refl w.heap.size w).alloc (Nat.le_refl _) (.cells #[.int .i64 0, .int .i64 0, .int .i64 hop, .slice none 0 0, .slice none 0 0] 53)
  by_cases h : hop = 0
  · subst h
    rw [show decide ((0 : Int) = 0) = true from rfl]
    go_enter Tryd.func53, Tryd.ntmps53
    go_wp2_with fail
    go_ret
    exact ⟨rfl, hb⟩
  · have e : decide (hop = 0) = false := by simpa using h
    have h' : (hop == 0) = false := by simpa using h
    rw [e]
    clear e h
    go_enter Tryd.func53, Tryd.ntmps53
    go_wp2_with fail
    go_ret
    exact ⟨by simp [h'], hb⟩
/-- What is amiss with a beat between two cars: the error's number. -/
def beatE (life seen hop : Int) : Int := if (0 ≤ life ∧ life ≤ 281474976710655) ∧ (0 ≤ seen ∧ seen ≤ 281474976710655) ∧ hop = 0 then 0 else 103
def GivesErrB (ad : Int → Addr) (w : World) (k : Int) (e : Ending) (w' : World) : Prop := e = .returned (errV ad k) ∧ Below w.heap.size w w'
set_option maxRecDepth 100000 in
set_option maxHeartbeats 4000000 in
theorem valid_any {ad : Int → Addr} (f t life seen : Int) (out : Bool) (hop : Int) (w : World) (hE : Errs3 ad w) (hf : 0 ≤ f ∧ f < 16) (ht : 0 ≤ t ∧ t < 16) :
    Calls Tryd.prog 32 #[.agg (beatC 1 f t life seen out hop)] w (GivesErrB ad w (beatE life seen hop)) := by
  have hb1 : Below w.heap.size w (w.alloc (.cells (beatC 1 f t life seen out hop) 64)) := (Below.refl _ _).alloc (Nat.le_refl _) _
  have g1 : w.cell? ⟨0, 0, none⟩ = some (.iface 136 (.pointer (some (ad 103)))) := hE.range
  have l1 := lt_of_cell g1
  have c1 := fun w => car_any f w hf
  have c2 := fun w => car_any t w ht
  have n1 := fun w => numB_any life w
  have n2 := fun w => numB_any seen w
  have z1 := zero_any hop
  clear hE hf ht
  go_enter Tryd.func32, Tryd.ntmps32
  go_wp2_with fail
  refine (c1 _).mono ?_
  rintro e w' ⟨rfl, rfl⟩
  go_wp2_with fail
  refine (c2 _).mono ?_
  rintro e w' ⟨rfl, rfl⟩
  go_wp2_with fail
  refine (n1 _).mono ?_
  rintro e w' ⟨rfl, rfl⟩
  by_cases hl : 0 ≤ life ∧ life ≤ 281474976710655
  · rw [decide_eq_true hl]
    go_wp2_with fail
    refine (n2 _).mono ?_
    rintro e w' ⟨rfl, rfl⟩
    by_cases hs : 0 ≤ seen ∧ seen ≤ 281474976710655
    · rw [decide_eq_true hs]
      go_wp2_with fail
      refine (z1 _).mono ?_
      rintro e w2 ⟨rfl, hb2⟩
      have hb3 := hb1.trans (hb2.mono hb1.size)
      have g2 := (hb3.cell (p := ⟨0, 0, none⟩) l1).trans g1
      by_cases hh : hop = 0
      · have he : beatE life seen hop = 0 := if_pos ⟨hl, hs, hh⟩
        have HE := hid he
        clear he
        rw [decide_eq_true hh]
        go_wp2_with fail
        go_ret
        exact ⟨by rw [HE.out]; rfl, hb3⟩
      · have he : beatE life seen hop = 103 := if_neg (fun q => hh q.2.2)
        have HE := hid he
        clear he
        rw [decide_eq_false hh]
        go_wp2_with fail
        go_ret
        exact ⟨by rw [HE.out]; rfl, hb3⟩
    · have he : beatE life seen hop = 103 := if_neg (fun q => hs q.2.1)
      have HE := hid he
      clear he
      rw [decide_eq_false hs]
      go_wp2_with fail
      go_ret
      exact ⟨by rw [HE.out]; rfl, hb1⟩
  · have he : beatE life seen hop = 103 := if_neg (fun q => hl q.1)
    have HE := hid he
    clear he
    rw [decide_eq_false hl]
    go_wp2_with fail
    go_ret
    exact ⟨by rw [HE.out]; rfl, hb1⟩
end Go.Proofs.YtogcbiooddodlaaDoor
