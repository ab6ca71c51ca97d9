/- What each function of a memory does. -/
import Derived.Test.YtmfdpjijpbgjbaaDoorCellPure
import Derived.Test.YtmfdpjijpbgjbaaDoorErrs
namespace Go.Proofs.YtmfdpjijpbgjbaaDoor
open Go.RowKit
set_option linter.unusedSimpArgs false

abbrev Cl.cells (c : Cl) (sl : Value) : List Value := [sl, .int .i64 c.fuse, .bool c.down, .int .i64 c.writes]

set_option maxHeartbeats 800000 in
theorem gone_any {b : Nat} {c : Cl} {sl : Value} (w : World) (hb : Blk w b (c.cells sl) 75) (hok : c.ok) :
    Calls Tryd.prog 35 #[.pointer (some ⟨b, 0, none⟩)] w fun e w' => e = .returned (.bool c.gone.down) ∧ Blk w' b (c.gone.cells sl) 75 ∧ Eff (· = b) w w' := by
  have c1 : w.cell? ⟨b, 1, none⟩ = some (.int .i64 c.fuse) := hb.cell 1
  have c2 : w.cell? ⟨b, 2, none⟩ = some (.bool c.down) := hb.cell 2
  have hf : ∀ o, w.frozen? ⟨b, o, none⟩ = false := hb.frozen
  have hlt := hb.lt
  obtain ⟨h0, h1, _⟩ := hok
  by_cases hg : c.down = false ∧ 0 < c.fuse
  · have hG : c.gone = { c with fuse := c.fuse - 1, down := c.fuse - 1 == 0 } := if_pos hg
    have HB : Hid (Blk ((w.setCell ⟨b, 1, none⟩ (.int .i64 (c.fuse - 1))).setCell ⟨b, 2, none⟩ (.bool (c.fuse - 1 == 0))) b (c.gone.cells sl) 75) := by
      rw [hG]; exact (hb.set 1 _).set 2 _
    have HD : Hid (c.gone.down = (c.fuse - 1 == 0)) := by rw [Hid, hG]
    obtain ⟨g1, g2⟩ := hg
    rw [g1] at c2
    clear hG hb g1
    cases hz : (c.fuse - 1 == 0)
    all_goals
      rw [hz] at HB HD
      go_enter Tryd.func35, Tryd.ntmps35
      go_wp2
      go_ret
      exact ⟨ret_bool HD.out.symm, HB.out, ((Eff.one b w).set _ _).set _ _⟩
  · have hG : c.gone = c := if_neg hg
    rw [hG]
    clear hG
    cases hd : c.down
    · have hz : ¬ 0 < c.fuse := fun h => hg ⟨hd, h⟩
      have HB : Hid (Blk w b (c.cells sl) 75) := hb
      rw [hd] at c2
      have HDn := hid hd
      clear hg hb hd
      go_enter Tryd.func35, Tryd.ntmps35
      go_wp2
      go_ret
      exact ⟨rfl, HB.out, Eff.one b w⟩
    · have HB : Hid (Blk w b (c.cells sl) 75) := hb
      rw [hd] at c2
      have HDn := hid hd
      clear hg hb hd
      go_enter Tryd.func35, Tryd.ntmps35
      go_wp2
      go_ret
      exact ⟨rfl, HB.out, Eff.one b w⟩

theorem is_cell {b : Nat} {bs : List Int} {g : Addr} {cap : Nat} {r1 r2 r3 : Value} (i : Int) (w : World) (hb : Blk w b [.slice (some g) bs.length cap, r1, r2, r3] 75) :
    Calls Tryd.prog 36 #[.pointer (some ⟨b, 0, none⟩), .int .i64 i] w fun e w' => e = .returned (.bool (decide (0 ≤ i) && decide (i < bs.length))) ∧ w = w' := by
  have c0 : w.cell? ⟨b, 0, none⟩ = some (.slice (some g) bs.length cap) := hb.cell 0
  by_cases h : 0 ≤ i
  · have h' : decide (0 ≤ i) = true := by simpa using h
    rw [h']
    clear hb h'
    go_enter Tryd.func36, Tryd.ntmps36
    go_wp2
    go_ret
    exact ⟨rfl, rfl⟩
  · have h' : decide (0 ≤ i) = false := by simpa using h
    rw [h']
    clear hb h'
    go_enter Tryd.func36, Tryd.ntmps36
    go_wp2
    go_ret
    exact ⟨rfl, rfl⟩

abbrev CellIs (w : World) (b g : Nat) (c : Cl) : Prop := CellAt 75 5 w b g c
def At2 (b g : Nat) (k : Nat) : Prop := k = b ∨ k = g

theorem Errs4.cellOff {w : World} {b : Nat} {cs : List Value} {u : Value} (hb : Blk w b cs 75) (hu : cs[0]? = some u) (hne : ∀ v, u ≠ .iface 103 v) : ∀ g v, w.cell? ⟨g, 0, none⟩ = some (.iface 103 v) → g ≠ b :=
  fun _ _ h => blk_not_var hb h hu hne

set_option maxHeartbeats 1600000 in
theorem put_any {ad : Int → Addr} {b g : Nat} {c : Cl} (i x : Int) (w : World) (hE : Errs4 ad w) (hc : CellIs w b g c) (hok : c.ok) (hw : 0 ≤ c.writes ∧ c.writes < 9223372036854775807) :
    Calls Tryd.prog 16 #[.pointer (some ⟨b, 0, none⟩), .int .i64 i, .int .u8 x] w fun e w' => e = .returned (errV ad (c.putE i)) ∧ CellIs w' b g (c.put i x) ∧ Eff (At2 b g) w w' := by
  obtain ⟨hne, cap, cur, hb, hg, hcap, hcl, hcm, hcur⟩ := hc
  obtain ⟨hw0, hw1⟩ := hw
  unfold maxLen at hcm
  have hG : c.gone.bs = c.bs := c.gone_bs
  have hW : c.gone.writes = c.writes := c.gone_writes
  have hoff : ∀ k v, w.cell? ⟨k, 0, none⟩ = some (.iface 103 v) → k ≠ b := Errs4.cellOff hb rfl (fun v h => by cases h)
  go_enter Tryd.func16, Tryd.ntmps16
  go_wp2_with fail
  refine (gone_any w hb hok).mono ?_
  rintro e w1 ⟨rfl, hb1, he1⟩
  have hE1 := hE.eff he1 hoff
  have hg1 := he1.blk hg (fun h => hne h.symm)
  have he1' : Eff (At2 b g) w w1 := he1.mono (fun k _ h => .inl h)
  cases hd : c.gone.down with
  | true =>
    have hr := hE1.power
    have HP : Hid (c.put i x = c.gone) := by simp [Hid, Cl.put, hd]
    have HP2 : Hid (c.putE i = 105) := by simp [Hid, Cl.putE, hd]
    have HB : Hid (CellIs w1 b g c.gone) := by
      refine ⟨hne, cap, cur, ?_, hg1, by rw [hG]; exact hcap, hcl, hcm, by rw [hG]; exact hcur⟩
      rw [hG]; exact hb1
    clear hb1 hg1 hE1 hE hb hg he1 hd hG hW hcur hoff hcl
    go_wp2
    go_ret
    rw [HP.out, HP2.out]
    exact ⟨rfl, HB.out, he1'⟩
  | false =>
    go_wp2_with fail
    refine (is_cell i w1 hb1).mono ?_
    rintro e w' ⟨rfl, rfl⟩
    cases hi : c.is i with
    | false =>
      have HI : Hid ((decide (0 ≤ i) && decide (i < (c.bs.length : Int))) = false) := hi
      have hr := hE1.none_
      have HP : Hid (c.put i x = c.gone) := by simp [Hid, Cl.put, hd, hi]
      have HP2 : Hid (c.putE i = 106) := by simp [Hid, Cl.putE, hd, hi]
      have HB : Hid (CellIs w1 b g c.gone) := by
        refine ⟨hne, cap, cur, ?_, hg1, by rw [hG]; exact hcap, hcl, hcm, by rw [hG]; exact hcur⟩
        rw [hG]; exact hb1
      rw [HI.out]
      clear hb1 hg1 hE1 hE hb hg he1 hd hG hW hcur hoff hcl hi
      go_wp2
      go_ret
      rw [HP.out, HP2.out]
      exact ⟨rfl, HB.out, he1'⟩
    | true =>
      have HI : Hid ((decide (0 ≤ i) && decide (i < (c.bs.length : Int))) = true) := hi
      simp only [Cl.is, Bool.and_eq_true, decide_eq_true_eq] at hi
      obtain ⟨hi0, hi1⟩ := hi
      rw [HI.out]
      have c0 : w1.cell? ⟨b, 0, none⟩ = some (.slice (some ⟨g, 0, none⟩) c.bs.length cap) := hb1.cell 0
      have c3 : w1.cell? ⟨b, 3, none⟩ = some (.int .i64 c.writes) := by rw [hb1.cell 3, ← hW]; rfl
      have hf1 : ∀ o, w1.frozen? ⟨b, o, none⟩ = false := hb1.frozen
      have hf2 : ∀ o, w1.frozen? ⟨g, o, none⟩ = false := hg1.frozen
      have ci : w1.cell? ⟨g, i.toNat, none⟩ = some (.int .u8 (c.bs.getD i.toNat 0)) := by rw [hg1.cell]; exact take_get hcur (by omega)
      have hgb : ¬ b = g := hne
      have hgb2 : ¬ g = b := fun h => hne h.symm
      have HP : Hid (c.put i x = { c.gone with bs := c.bs.set i.toNat x, writes := c.writes + 1 }) := by simp [Hid, Cl.put, hd, Cl.is, hi0, hi1]
      have HP2 : Hid (c.putE i = 0) := by simp [Hid, Cl.putE, hd, Cl.is, hi0, hi1]
      have HB : Hid (CellIs ((w1.setCell ⟨g, i.toNat, none⟩ (.int .u8 x)).setCell ⟨b, 3, none⟩ (.int .i64 (c.writes + 1))) b g (c.put i x)) := by
        rw [Hid, HP.out]
        refine ⟨hne, cap, cur.set i.toNat (.int .u8 x), ?_, (hg1.set _ _).set_ne hgb2 _ _ _, by simpa using hcap, by simpa using hcl, hcm, take_set_map hcur _ _⟩
        have := (hb1.set_ne (hne) i.toNat none (.int .u8 x)).set 3 (.int .i64 (c.writes + 1))
        simpa using this
      have HF : Hid (Eff (At2 b g) w ((w1.setCell ⟨g, i.toNat, none⟩ (.int .u8 x)).setCell ⟨b, 3, none⟩ (.int .i64 (c.writes + 1)))) :=
        (he1'.setCell (p := ⟨g, i.toNat, none⟩) (fun _ => .inr rfl) _).setCell (p := ⟨b, 3, none⟩) (fun _ => .inl rfl) _
      clear hb1 hg1 hE1 hE hb hg he1 hd hG hW hcur hoff hcl HP he1'
      go_wp2
      go_ret
      rw [HP2.out]
      exact ⟨rfl, HB.out, HF.out⟩

set_option maxHeartbeats 800000 in
theorem get_any {ad : Int → Addr} {b g : Nat} {c : Cl} (i : Int) (w : World) (hE : Errs4 ad w) (hc : CellIs w b g c) :
    Calls Tryd.prog 18 #[.pointer (some ⟨b, 0, none⟩), .int .i64 i] w fun e w' => e = .returned (.tuple #[.int .u8 (c.get i), errV ad (c.getE i)]) ∧ ∃ n, w' = w.drewN n := by
  obtain ⟨hne, cap, cur, hb, hg, hcap, hcl, hcm, hcur⟩ := hc
  unfold maxLen at hcm
  have c2 : w.cell? ⟨b, 2, none⟩ = some (.bool c.down) := hb.cell 2
  cases hd : c.down with
  | true =>
    have HP : Hid (c.get i = 0) := by simp [Hid, Cl.get, hd]
    have HP2 : Hid (c.getE i = 105) := by simp [Hid, Cl.getE, hd]
    have hr := hE.power
    have hr' := hE.drew.power
    rw [hd] at c2
    clear hb hg hE hcur hcl hd
    go_enter Tryd.func18, Tryd.ntmps18
    go_wp2_with fail
    go_quiet (fail)
    go_wp2
    go_ret2
    rw [HP.out, HP2.out]
    exact ⟨rfl, _, rfl⟩
  | false =>
    rw [hd] at c2
    cases hi : c.is i with
    | false =>
      have HI : Hid ((decide (0 ≤ i) && decide (i < (c.bs.length : Int))) = false) := hi
      have hr := hE.none_
      have HP : Hid (c.get i = 0) := by simp [Hid, Cl.get, hd, hi]
      have HP2 : Hid (c.getE i = 106) := by simp [Hid, Cl.getE, hd, hi]
      have HB := hid hb
      clear hb hg hE hcur hcl hi hd
      go_enter Tryd.func18, Tryd.ntmps18
      go_wp2_with fail
      refine (is_cell i w HB.out).mono ?_
      rintro e w' ⟨rfl, rfl⟩
      rw [HI.out]
      go_wp2_with fail
      go_quiet (fail)
      go_wp2
      go_ret2
      rw [HP.out, HP2.out]
      exact ⟨rfl, _, rfl⟩
    | true =>
      have HI : Hid ((decide (0 ≤ i) && decide (i < (c.bs.length : Int))) = true) := hi
      have HP2 : Hid (c.getE i = 0) := by simp [Hid, Cl.getE, hd, hi]
      have hi' := hi
      simp only [Cl.is, Bool.and_eq_true, decide_eq_true_eq] at hi'
      obtain ⟨hi0, hi1⟩ := hi'
      have HP : Hid (c.get i = c.bs.getD i.toNat 0) := by simp [Hid, Cl.get, hd, hi]
      have HB := hid hb
      have c0 : w.cell? ⟨b, 0, none⟩ = some (.slice (some ⟨g, 0, none⟩) c.bs.length cap) := hb.cell 0
      have ci : w.cell? ⟨g, i.toNat, none⟩ = some (.int .u8 (c.bs.getD i.toNat 0)) := by rw [hg.cell]; exact take_get hcur (by omega)
      generalize hv : c.bs.getD i.toNat 0 = v at ci HP
      clear hb hg hE hcur hcl hi hd hv
      go_enter Tryd.func18, Tryd.ntmps18
      go_wp2_with fail
      refine (is_cell i w HB.out).mono ?_
      rintro e w' ⟨rfl, rfl⟩
      rw [HI.out]
      go_wp2
      go_ret2
      rw [HP.out, HP2.out]
      exact ⟨rfl, 0, rfl⟩

theorem arm_any {b g : Nat} {c : Cl} (n : Int) (w : World) (hc : CellIs w b g c) :
    Calls Tryd.prog 15 #[.pointer (some ⟨b, 0, none⟩), .int .i64 n] w fun e w' => e = .returned (.tuple #[]) ∧ CellIs w' b g (c.arm n) ∧ Eff (At2 b g) w w' := by
  obtain ⟨hne, cap, cur, hb, hg, hcap, hcl, hcm, hcur⟩ := hc
  have c1 : w.cell? ⟨b, 1, none⟩ = some (.int .i64 c.fuse) := hb.cell 1
  have hf : w.frozen? ⟨b, 1, none⟩ = false := hb.frozen 1
  have hgb2 : ¬ g = b := fun h => hne h.symm
  have HB : Hid (CellIs (w.setCell ⟨b, 1, none⟩ (.int .i64 (max n 0))) b g (c.arm n)) :=
    ⟨hne, cap, cur, hb.set 1 _, hg.set_ne hgb2 _ _ _, hcap, hcl, hcm, hcur⟩
  have HF : Hid (Eff (At2 b g) w (w.setCell ⟨b, 1, none⟩ (.int .i64 (max n 0)))) := (Eff.refl _ w).setCell (p := ⟨b, 1, none⟩) (fun _ => .inl rfl) _
  clear hb hg hcur hcl
  go_enter Tryd.func15, Tryd.ntmps15
  go_wp2
  · have h : n < 0 := by assumption
    rw [Int.max_eq_right (by omega)] at HB HF
    go_end0
    exact ⟨rfl, HB.out, HF.out⟩
  · have h : 0 ≤ n := by assumption
    rw [Int.max_eq_left h] at HB HF
    go_end0
    exact ⟨rfl, HB.out, HF.out⟩

theorem back_any {b g : Nat} {c : Cl} (w : World) (hc : CellIs w b g c) :
    Calls Tryd.prog 17 #[.pointer (some ⟨b, 0, none⟩)] w fun e w' => e = .returned (.tuple #[]) ∧ CellIs w' b g c.back ∧ Eff (At2 b g) w w' := by
  obtain ⟨hne, cap, cur, hb, hg, hcap, hcl, hcm, hcur⟩ := hc
  have c1 : w.cell? ⟨b, 1, none⟩ = some (.int .i64 c.fuse) := hb.cell 1
  have c2 : w.cell? ⟨b, 2, none⟩ = some (.bool c.down) := hb.cell 2
  have hf : ∀ o, w.frozen? ⟨b, o, none⟩ = false := hb.frozen
  have hgb2 : ¬ g = b := fun h => hne h.symm
  have HB : Hid (CellIs ((w.setCell ⟨b, 1, none⟩ (.int .i64 0)).setCell ⟨b, 2, none⟩ (.bool false)) b g c.back) :=
    ⟨hne, cap, cur, (hb.set 1 _).set 2 _, (hg.set_ne hgb2 _ _ _).set_ne hgb2 _ _ _, hcap, hcl, hcm, hcur⟩
  clear hb hg hcur hcl
  go_enter Tryd.func17, Tryd.ntmps17
  go_wp2
  go_end0
  exact ⟨rfl, HB.out, ((Eff.refl _ w).setCell (p := ⟨b, 1, none⟩) (fun _ => .inl rfl) _).setCell (p := ⟨b, 2, none⟩) (fun _ => .inl rfl) _⟩

theorem down_any {b g : Nat} {c : Cl} (w : World) (hc : CellIs w b g c) :
    Calls Tryd.prog 19 #[.pointer (some ⟨b, 0, none⟩)] w fun e w' => e = .returned (.bool c.down) ∧ w = w' := by
  obtain ⟨hne, cap, cur, hb, hg, hcap, hcl, hcm, hcur⟩ := hc
  have c2 : w.cell? ⟨b, 2, none⟩ = some (.bool c.down) := hb.cell 2
  clear hb hg hcur hcl
  go_enter Tryd.func19, Tryd.ntmps19
  go_wp2
  go_ret
  exact ⟨rfl, rfl⟩
theorem writes_any {b g : Nat} {c : Cl} (w : World) (hc : CellIs w b g c) :
    Calls Tryd.prog 21 #[.pointer (some ⟨b, 0, none⟩)] w fun e w' => e = .returned (.int .i64 c.writes) ∧ w = w' := by
  obtain ⟨hne, cap, cur, hb, hg, hcap, hcl, hcm, hcur⟩ := hc
  have c3 : w.cell? ⟨b, 3, none⟩ = some (.int .i64 c.writes) := hb.cell 3
  clear hb hg hcur hcl
  go_enter Tryd.func21, Tryd.ntmps21
  go_wp2
  go_ret
  exact ⟨rfl, rfl⟩
theorem size_any {b g : Nat} {c : Cl} (w : World) (hc : CellIs w b g c) :
    Calls Tryd.prog 26 #[.pointer (some ⟨b, 0, none⟩)] w fun e w' => e = .returned (.int .i64 c.bs.length) ∧ w = w' := by
  obtain ⟨hne, cap, cur, hb, hg, hcap, hcl, hcm, hcur⟩ := hc
  have c0 : w.cell? ⟨b, 0, none⟩ = some (.slice (some ⟨g, 0, none⟩) c.bs.length cap) := hb.cell 0
  clear hb hg hcur hcl
  go_enter Tryd.func26, Tryd.ntmps26
  go_wp2
  go_ret
  exact ⟨rfl, rfl⟩
end Go.Proofs.YtmfdpjijpbgjbaaDoor
