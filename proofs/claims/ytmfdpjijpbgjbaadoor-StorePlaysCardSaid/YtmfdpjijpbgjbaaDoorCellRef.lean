/- The document's memory: what each of its functions does. -/
import Derived.Test.YtmfdpjijpbgjbaaDoorCellWalks
namespace Go.Proofs.YtmfdpjijpbgjbaaDoor
open Go.RowKit
set_option linter.unusedSimpArgs false

/-- How the document's cell lies. -/
def RefAt (w : World) (b g : Nat) (c : Cl) : Prop :=
  b ≠ g ∧ ∃ cap cur, Blk w b [.slice (some ⟨g, 0, none⟩) c.bs.length cap, .int .i64 c.fuse, .int .i64 c.writes, .bool c.down] 43 ∧ Blk w g cur 5 ∧ c.bs.length ≤ cap ∧ cap = cur.length ∧ cap ≤ maxLen ∧ cur.take c.bs.length = c.bs.map (Value.int .u8)
theorem RefAt.eff {S : Nat → Prop} {w w' : World} {b g : Nat} {c : Cl} (h : RefAt w b g c) (he : Eff S w w') (h1 : ¬ S b) (h2 : ¬ S g) : RefAt w' b g c := by
  obtain ⟨hn, cap, cur, hb, hg, r⟩ := h
  exact ⟨hn, cap, cur, he.blk hb h1, he.blk hg h2, r⟩
theorem RefAt.below {w w' : World} {b g : Nat} {c : Cl} (h : RefAt w b g c) (hb : Below w.heap.size w w') : RefAt w' b g c :=
  h.eff (Eff.of_below (S := fun _ => False) hb) (fun h => h) (fun h => h)
theorem RefAt.lt {w : World} {b g : Nat} {c : Cl} (h : RefAt w b g c) : b < w.heap.size ∧ g < w.heap.size := by
  obtain ⟨_, cap, cur, hb, hg, _⟩ := h
  exact ⟨hb.lt, hg.lt⟩
theorem RefAt.off {w w' : World} {b g b' g' : Nat} {c : Cl} (h : RefAt w b g c) (he : Eff (At2 b' g') w w') (h1 : b ≠ b') (h2 : b ≠ g') (h3 : g ≠ b') (h4 : g ≠ g') : RefAt w' b g c :=
  h.eff he (fun x => by rcases x with x | x <;> omega) (fun x => by rcases x with x | x <;> omega)
theorem CellAt.off {T E : TypeId} {w w' : World} {b g b' g' : Nat} {c : Cl} (h : CellAt T E w b g c) (he : Eff (At2 b' g') w w') (h1 : b ≠ b') (h2 : b ≠ g') (h3 : g ≠ b') (h4 : g ≠ g') : CellAt T E w' b g c :=
  h.eff he (fun x => by rcases x with x | x <;> omega) (fun x => by rcases x with x | x <;> omega)

def refPutPost (w : World) (b g : Nat) (c : Cl) (i x : Int) (e : Ending) (w' : World) : Prop := e = .returned (.int .i64 (c.putE i)) ∧ RefAt w' b g (c.put i x) ∧ Eff (At2 b g) w w'

set_option maxHeartbeats 1600000 in
theorem refPut_any {b g : Nat} {c : Cl} (i x : Int) (w : World) (hc : RefAt w b g c) (hok : c.ok) (hw : 0 ≤ c.writes ∧ c.writes < 9223372036854775807) :
    Calls Tryd.prog 23 #[.pointer (some ⟨b, 0, none⟩), .int .i64 i, .int .u8 x] w (refPutPost w b g c i x) := by
  obtain ⟨hne, cap, cur, hb, hg, hcap, hcl, hcm, hcur⟩ := hc
  obtain ⟨hw0, hw1⟩ := hw
  unfold maxLen at hcm
  obtain ⟨hk0, hk1, _⟩ := hok
  have c0 : w.cell? ⟨b, 0, none⟩ = some (.slice (some ⟨g, 0, none⟩) c.bs.length cap) := hb.cell 0
  have c1 : w.cell? ⟨b, 1, none⟩ = some (.int .i64 c.fuse) := hb.cell 1
  have c2 : w.cell? ⟨b, 2, none⟩ = some (.int .i64 c.writes) := hb.cell 2
  have c3 : w.cell? ⟨b, 3, none⟩ = some (.bool c.down) := hb.cell 3
  have hf1 : ∀ o, w.frozen? ⟨b, o, none⟩ = false := hb.frozen
  have hf2 : ∀ o, w.frozen? ⟨g, o, none⟩ = false := hg.frozen
  have hgb : ¬ b = g := hne
  have hgb2 : ¬ g = b := fun h => hne h.symm
  have hl1 := hb.lt
  have hl2 := hg.lt
  cases hd : c.down with
  | true =>
    have hG : c.gone = c := by simp [Cl.gone, hd]
    have HP : Hid (refPutPost w b g c i x (.returned (.int .i64 105)) w) := by
      refine ⟨by simp [Cl.putE, hG, hd], ?_, Eff.refl _ w⟩
      rw [show c.put i x = c from by simp [Cl.put, hG, hd]]
      exact ⟨hne, cap, cur, hb, hg, hcap, hcl, hcm, hcur⟩
    rw [hd] at c3
    clear hG hb hg hcur hcl hd
    go_enter Tryd.func23, Tryd.ntmps23
    go_wp2
    go_ret
    exact HP.out
  | false =>
  by_cases hfu : 0 < c.fuse
  · by_cases hl : c.fuse = 1
    · have hG : c.gone = { c with fuse := 0, down := true } := by simp [Cl.gone, hd, hl]
      have HP : Hid (refPutPost w b g c i x (.returned (.int .i64 105)) ((w.setCell ⟨b, 1, none⟩ (.int .i64 0)).setCell ⟨b, 3, none⟩ (.bool true))) := by
        refine ⟨by simp [Cl.putE, hG], ?_, ((Eff.refl _ w).setCell (p := ⟨b, 1, none⟩) (fun _ => .inl rfl) _).setCell (p := ⟨b, 3, none⟩) (fun _ => .inl rfl) _⟩
        rw [show c.put i x = { c with fuse := 0, down := true } from by simp [Cl.put, hG]]
        exact ⟨hne, cap, cur, (hb.set 1 _).set 3 _, (hg.set_ne hgb2 _ _ _).set_ne hgb2 _ _ _, hcap, hcl, hcm, hcur⟩
      rw [hd] at c3
      rw [hl] at c1
      clear hG hb hg hcur hcl hd hl hfu hk0 hk1
      go_enter Tryd.func23, Tryd.ntmps23
      go_wp2
      go_ret
      exact HP.out
    · have hG : c.gone = { c with fuse := c.fuse - 1 } := by
        have h : (c.fuse - 1 == 0) = false := by simp; omega
        simp only [Cl.gone, hd, h, true_and]
        rw [if_pos hfu]
      have hz : (c.fuse - 1 == 0) = false := by simp; omega
      cases hi : c.is i with
      | false =>
        have HP : Hid (refPutPost w b g c i x (.returned (.int .i64 106)) (w.setCell ⟨b, 1, none⟩ (.int .i64 (c.fuse - 1)))) := by
          refine ⟨by simp [Cl.putE, hG, hd, hi], ?_, (Eff.refl _ w).setCell (p := ⟨b, 1, none⟩) (fun _ => .inl rfl) _⟩
          rw [show c.put i x = { c with fuse := c.fuse - 1 } from by simp [Cl.put, hG, hd, hi]]
          exact ⟨hne, cap, cur, hb.set 1 _, hg.set_ne hgb2 _ _ _, hcap, hcl, hcm, hcur⟩
        simp only [Cl.is, Bool.and_eq_false_iff, decide_eq_false_iff_not] at hi
        rw [hd] at c3
        clear hG hb hg hcur hcl hd
        by_cases hi0 : i < 0
        · clear hi
          go_enter Tryd.func23, Tryd.ntmps23
          go_wp2
          go_ret
          exact HP.out
        · have hi1 : (c.bs.length : Int) ≤ i := by omega
          clear hi
          go_enter Tryd.func23, Tryd.ntmps23
          go_wp2
          go_ret
          exact HP.out
      | true =>
        have hi' := hi
        simp only [Cl.is, Bool.and_eq_true, decide_eq_true_eq] at hi
        obtain ⟨hi0, hi1⟩ := hi
        have hd0 : decide (i < 0) = false := by simpa using hi0
        have hd1 : decide ((c.bs.length : Int) ≤ i) = false := by simpa using hi1
        have ci : w.cell? ⟨g, i.toNat, none⟩ = some (.int .u8 (c.bs.getD i.toNat 0)) := by rw [hg.cell]; exact take_get hcur (by omega)
        generalize c.bs.getD i.toNat 0 = v at ci
        have HP : Hid (refPutPost w b g c i x (.returned (.int .i64 0)) (((w.setCell ⟨b, 1, none⟩ (.int .i64 (c.fuse - 1))).setCell ⟨g, i.toNat, none⟩ (.int .u8 x)).setCell ⟨b, 2, none⟩ (.int .i64 (c.writes + 1)))) := by
          refine ⟨by simp [Cl.putE, hG, hd, hi'], ?_, (((Eff.refl _ w).setCell (p := ⟨b, 1, none⟩) (fun _ => .inl rfl) _).setCell (p := ⟨g, i.toNat, none⟩) (fun _ => .inr rfl) _).setCell (p := ⟨b, 2, none⟩) (fun _ => .inl rfl) _⟩
          rw [show c.put i x = { c with fuse := c.fuse - 1, bs := c.bs.set i.toNat x, writes := c.writes + 1 } from by simp [Cl.put, hG, hd, hi']]
          refine ⟨hne, cap, cur.set i.toNat (.int .u8 x), ?_, (((hg.set_ne hgb2 _ _ _).set _ _).set_ne hgb2 _ _ _), by simpa using hcap, by simpa using hcl, hcm, take_set_map hcur _ _⟩
          have := (((hb.set 1 (.int .i64 (c.fuse - 1))).set_ne hne i.toNat none (.int .u8 x)).set 2 (.int .i64 (c.writes + 1)))
          simpa using this
        rw [hd] at c3
        clear hG hb hg hcur hcl hd hi'
        go_enter Tryd.func23, Tryd.ntmps23
        go_wp2
        go_ret
        exact HP.out
  · have hG : c.gone = c := by simp [Cl.gone, hfu]
    cases hi : c.is i with
    | false =>
      have HP : Hid (refPutPost w b g c i x (.returned (.int .i64 106)) w) := by
        refine ⟨by simp [Cl.putE, hG, hd, hi], ?_, Eff.refl _ w⟩
        rw [show c.put i x = c from by simp [Cl.put, hG, hd, hi]]
        exact ⟨hne, cap, cur, hb, hg, hcap, hcl, hcm, hcur⟩
      simp only [Cl.is, Bool.and_eq_false_iff, decide_eq_false_iff_not] at hi
      rw [hd] at c3
      clear hG hb hg hcur hcl hd
      by_cases hi0 : i < 0
      · clear hi
        go_enter Tryd.func23, Tryd.ntmps23
        go_wp2
        go_ret
        exact HP.out
      · have hi1 : (c.bs.length : Int) ≤ i := by omega
        clear hi
        go_enter Tryd.func23, Tryd.ntmps23
        go_wp2
        go_ret
        exact HP.out
    | true =>
      have hi' := hi
      simp only [Cl.is, Bool.and_eq_true, decide_eq_true_eq] at hi
      obtain ⟨hi0, hi1⟩ := hi
      have hd0 : decide (i < 0) = false := by simpa using hi0
      have hd1 : decide ((c.bs.length : Int) ≤ i) = false := by simpa using hi1
      have ci : w.cell? ⟨g, i.toNat, none⟩ = some (.int .u8 (c.bs.getD i.toNat 0)) := by rw [hg.cell]; exact take_get hcur (by omega)
      generalize c.bs.getD i.toNat 0 = v at ci
      have HP : Hid (refPutPost w b g c i x (.returned (.int .i64 0)) ((w.setCell ⟨g, i.toNat, none⟩ (.int .u8 x)).setCell ⟨b, 2, none⟩ (.int .i64 (c.writes + 1)))) := by
        refine ⟨by simp [Cl.putE, hG, hd, hi'], ?_, ((Eff.refl _ w).setCell (p := ⟨g, i.toNat, none⟩) (fun _ => .inr rfl) _).setCell (p := ⟨b, 2, none⟩) (fun _ => .inl rfl) _⟩
        rw [show c.put i x = { c with bs := c.bs.set i.toNat x, writes := c.writes + 1 } from by simp [Cl.put, hG, hd, hi']]
        refine ⟨hne, cap, cur.set i.toNat (.int .u8 x), ?_, ((hg.set _ _).set_ne hgb2 _ _ _), by simpa using hcap, by simpa using hcl, hcm, take_set_map hcur _ _⟩
        have := ((hb.set_ne hne i.toNat none (.int .u8 x)).set 2 (.int .i64 (c.writes + 1)))
        simpa using this
      rw [hd] at c3
      clear hG hb hg hcur hcl hd hi'
      go_enter Tryd.func23, Tryd.ntmps23
      go_wp2
      go_ret
      exact HP.out

set_option maxHeartbeats 800000 in
theorem refGet_any {b g : Nat} {c : Cl} (i : Int) (w : World) (hc : RefAt w b g c) :
    Calls Tryd.prog 25 #[.pointer (some ⟨b, 0, none⟩), .int .i64 i] w fun e w' => e = .returned (.tuple #[.int .u8 (c.get i), .int .i64 (c.getE i)]) ∧ w = w' := by
  obtain ⟨hne, cap, cur, hb, hg, hcap, hcl, hcm, hcur⟩ := hc
  unfold maxLen at hcm
  have c0 : w.cell? ⟨b, 0, none⟩ = some (.slice (some ⟨g, 0, none⟩) c.bs.length cap) := hb.cell 0
  have c3 : w.cell? ⟨b, 3, none⟩ = some (.bool c.down) := hb.cell 3
  cases hd : c.down with
  | true =>
    have HP : Hid (c.get i = 0) := by simp [Hid, Cl.get, hd]
    have HP2 : Hid (c.getE i = 105) := by simp [Hid, Cl.getE, hd]
    rw [hd] at c3
    clear hb hg hcur hcl hd
    go_enter Tryd.func25, Tryd.ntmps25
    go_wp2
    go_ret2
    rw [HP.out, HP2.out]
    exact ⟨rfl, rfl⟩
  | false =>
    cases hi : c.is i with
    | false =>
      have HP : Hid (c.get i = 0) := by simp [Hid, Cl.get, hd, hi]
      have HP2 : Hid (c.getE i = 106) := by simp [Hid, Cl.getE, hd, hi]
      simp only [Cl.is, Bool.and_eq_false_iff, decide_eq_false_iff_not] at hi
      rw [hd] at c3
      clear hb hg hcur hcl hd
      by_cases hi0 : i < 0
      · clear hi
        go_enter Tryd.func25, Tryd.ntmps25
        go_wp2
        go_ret2
        rw [HP.out, HP2.out]
        exact ⟨rfl, rfl⟩
      · have hi1 : (c.bs.length : Int) ≤ i := by omega
        clear hi
        go_enter Tryd.func25, Tryd.ntmps25
        go_wp2
        go_ret2
        rw [HP.out, HP2.out]
        exact ⟨rfl, rfl⟩
    | true =>
      have hi' := hi
      simp only [Cl.is, Bool.and_eq_true, decide_eq_true_eq] at hi
      obtain ⟨hi0, hi1⟩ := hi
      have hd0 : decide (i < 0) = false := by simpa using hi0
      have hd1 : decide ((c.bs.length : Int) ≤ i) = false := by simpa using hi1
      have HP2 : Hid (c.getE i = 0) := by simp [Hid, Cl.getE, hd, hi']
      have HP : Hid (c.get i = c.bs.getD i.toNat 0) := by simp [Hid, Cl.get, hd, hi']
      have ci : w.cell? ⟨g, i.toNat, none⟩ = some (.int .u8 (c.bs.getD i.toNat 0)) := by rw [hg.cell]; exact take_get hcur (by omega)
      generalize hv : c.bs.getD i.toNat 0 = v at ci HP
      rw [hd] at c3
      clear hb hg hcur hcl hd hv hi'
      go_enter Tryd.func25, Tryd.ntmps25
      go_wp2
      go_ret2
      rw [HP.out, HP2.out]
      exact ⟨rfl, rfl⟩

theorem refBack_any {b g : Nat} {c : Cl} (w : World) (hc : RefAt w b g c) :
    Calls Tryd.prog 24 #[.pointer (some ⟨b, 0, none⟩)] w fun e w' => e = .returned (.tuple #[]) ∧ RefAt w' b g c.back ∧ Eff (At2 b g) w w' := by
  obtain ⟨hne, cap, cur, hb, hg, hcap, hcl, hcm, hcur⟩ := hc
  have c1 : w.cell? ⟨b, 1, none⟩ = some (.int .i64 c.fuse) := hb.cell 1
  have c3 : w.cell? ⟨b, 3, none⟩ = some (.bool c.down) := hb.cell 3
  have hf : ∀ o, w.frozen? ⟨b, o, none⟩ = false := hb.frozen
  have hgb2 : ¬ g = b := fun h => hne h.symm
  have HB : Hid (RefAt ((w.setCell ⟨b, 3, none⟩ (.bool false)).setCell ⟨b, 1, none⟩ (.int .i64 0)) b g c.back) :=
    ⟨hne, cap, cur, (hb.set 3 _).set 1 _, (hg.set_ne hgb2 _ _ _).set_ne hgb2 _ _ _, hcap, hcl, hcm, hcur⟩
  clear hb hg hcur hcl
  go_enter Tryd.func24, Tryd.ntmps24
  go_wp2
  go_end0
  exact ⟨rfl, HB.out, ((Eff.refl _ w).setCell (p := ⟨b, 3, none⟩) (fun _ => .inl rfl) _).setCell (p := ⟨b, 1, none⟩) (fun _ => .inl rfl) _⟩
end Go.Proofs.YtmfdpjijpbgjbaaDoor
