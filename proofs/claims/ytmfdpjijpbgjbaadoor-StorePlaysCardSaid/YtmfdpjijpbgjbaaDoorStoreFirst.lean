/- A store on a memory, as the statements use it; the chapter's examples. -/
import Derived.Test.YtmfdpjijpbgjbaaDoorStoreLaw
import Derived.Test.YtmfdpjijpbgjbaaDoorCellMake2
import Derived.Test.YtmfdpjijpbgjbaaDoorCellFirst
namespace Go.Proofs.YtmfdpjijpbgjbaaDoor
open Go.RowKit
set_option linter.unusedSimpArgs false

theorem numK_zero (n p k : Nat) : numK (List.replicate n 0) p k = 0 := by
  induction k with
  | zero => rfl
  | succ k ih =>
    rw [numK, ih]
    simp only [List.getD_eq_getElem?_getD, List.getElem?_replicate]
    split <;> simp
theorem open_new (n : Nat) : openR (Cl.new n).bs = ((0, 0), -1) := by
  have h : ∀ k, slotOf (Cl.new n).bs k = none := fun k => by
    rw [slotOf, if_neg]
    simp only [Cl.new, List.getD_eq_getElem?_getD, List.getElem?_replicate]
    split <;> simp
  rw [openR, h 0, h 1]
  rfl
/-- A store and its memory, all of the call's own. -/
structure St (W w : World) (b g s : Nat) (c : Cl) (a : (Int × Int) × Int) : Prop where
  cell : CellIs w b g c
  store : StoreIs w s b a
  ok : c.ok
  len : 26 ≤ c.bs.length ∧ c.bs.length ≤ 4096
  up : c.down = false
  writes : 0 ≤ c.writes ∧ c.writes < 1000000
  at_ : -1 ≤ a.2 ∧ a.2 ≤ 1
  below : Below W.heap.size W w
  new : W.heap.size ≤ b ∧ W.heap.size ≤ g ∧ W.heap.size ≤ s
  ne : s ≠ b ∧ s ≠ g
section
variable {W w w' : World} {b g s : Nat} {c : Cl} {a : (Int × Int) × Int}
theorem St.on (h : St W w b g s c a) (hb : Below w.heap.size w w') : St W w' b g s c a :=
  ⟨h.cell.below hb, (Eff.of_below (S := fun _ => False) hb).blk h.store (fun h => h), h.ok, h.len, h.up, h.writes, h.at_, h.below.trans (hb.mono h.below.size), h.new, h.ne⟩
theorem St.drewN (h : St W w b g s c a) (n : Nat) : St W (w.drewN n) b g s c a := h.on (below_drewN (Below.refl _ _) n)
theorem openR_rng (bs : List Int) : -1 ≤ (openR bs).2 ∧ (openR bs).2 ≤ 1 := by
  rcases openR_at bs with h | h | h <;> rw [h] <;> omega
end
def GivesOpened (W w : World) (e : Ending) (w' : World) : Prop := ∃ s b g, e = .returned (.tuple #[.pointer (some ⟨s, 0, none⟩), .pointer (some ⟨b, 0, none⟩)]) ∧ St W w' b g s (Cl.new 26) ((0, 0), -1) ∧ Below w.heap.size w w'
set_option maxHeartbeats 1600000 in
theorem opened_any {ad : Int → Addr} {W : World} (w : World) (hE : Errs4 ad W) (hB : Below W.heap.size W w) : Calls Tryd.prog 33 #[] w (GivesOpened W w) := by
  go_enter Tryd.func33, Tryd.ntmps33
  go_wp2_with fail
  refine (new_yes 26 _ (by omega) (by omega)).mono ?_
  rintro e w1 ⟨b, g, rfl, hc1, hbB, hgB, hb1⟩
  have hB1 := hB.trans (hb1.mono hB.size)
  have ho := open_any _ (hE.below hB1) hc1 (Cl.new_ok 26) rfl (by simp [Cl.new]) (by simp [Cl.new])
  rw [open_new] at ho
  go_wp2_with fail
  refine ho.mono ?_
  rintro e w2 ⟨s, rfl, hs2, hlt, hb2⟩
  have hlc := hc1.lt
  have hsz := hB.size
  have HF : Hid (St W w2 b g s (Cl.new 26) ((0, 0), -1)) :=
    ⟨hc1.below hb2, hs2, Cl.new_ok 26, by simp [Cl.new], rfl, by simp [Cl.new], by decide, hB1.trans (hb2.mono hB1.size), ⟨by omega, by omega, by have := hB1.size; omega⟩, by omega, by omega⟩
  clear hs2 ho hc1
  have hb3 := hb1.trans (hb2.mono hb1.size)
  go_wp2_with fail
  go_ret2
  exact ⟨s, b, g, rfl, HF.out, hb3⟩
set_option maxHeartbeats 1600000 in
theorem sameR_any (r q : Int × Int) (w : World) : Calls Tryd.prog 34 #[.agg #[.int .i64 r.1, .int .i64 r.2], .agg #[.int .i64 q.1, .int .i64 q.2]] w (SaysBool w (decide (r = q))) := by
  obtain ⟨x, y⟩ := r
  obtain ⟨p, q⟩ := q
  have hb : Below w.heap.size w ((w.alloc (.cells #[.int .i64 x, .int .i64 y] 59)).alloc (.cells #[.int .i64 p, .int .i64 q] 59)) := ((Below.refl _ _).alloc (Nat.le_refl _) _).alloc (by simp) _
  by_cases h1 : x = p
  · by_cases h2 : y = q
    · subst h1 h2
      have e : decide (((x, y) : Int × Int) = (x, y)) = true := by simp
      rw [e]
      go_enter Tryd.func34, Tryd.ntmps34
      go_wp2_with fail
      go_ret
      exact ⟨by simp, hb⟩
    · have e : decide (((x, y) : Int × Int) = (p, q)) = false := by simp [h2]
      have h2' : (y == q) = false := by simpa using h2
      subst h1
      rw [e]
      clear e h2
      go_enter Tryd.func34, Tryd.ntmps34
      go_wp2_with fail
      go_ret
      exact ⟨by simp [h2'], hb⟩
  · have e : decide (((x, y) : Int × Int) = (p, q)) = false := by simp [h1]
    have h1' : (x == p) = false := by simpa using h1
    rw [e]
    clear e h1
    go_enter Tryd.func34, Tryd.ntmps34
    go_wp2_with fail
    go_ret
    exact ⟨by simp [h1'], hb⟩

theorem saveL_in (k : Nat) (r : Int × Int) {c : Cl} (h : k * 13 + 13 ≤ c.bs.length) : ∀ p ∈ saveL k r, c.is p.1 = true := fun p hp => by
  rcases List.mem_append.1 hp with hp | hp
  · obtain ⟨j, hj, rfl⟩ := List.mem_map.1 hp
    rw [List.mem_range, slotB_len] at hj
    simp only [Cl.is, Bool.and_eq_true, decide_eq_true_eq]
    omega
  · rw [List.mem_singleton] at hp
    subst hp
    simp only [Cl.is, Bool.and_eq_true, decide_eq_true_eq]
    omega
theorem saveL_b (k : Nat) (r : Int × Int) : ∀ p ∈ saveL k r, 0 ≤ p.2 ∧ p.2 ≤ 255 := fun p hp => by
  rcases List.mem_append.1 hp with hp | hp
  · obtain ⟨j, hj, rfl⟩ := List.mem_map.1 hp
    rw [List.mem_range] at hj
    simp only
    rw [List.getD_eq_getElem?_getD, List.getElem?_eq_getElem hj]
    exact slotB_b r _ (List.getElem_mem _)
  · rw [List.mem_singleton] at hp
    subst hp
    simp
theorem saveS_le (z : Int) : saveS z = 0 ∨ saveS z = 1 := by unfold saveS; split <;> simp
/-- A memory without a fuse, and a record saved. -/
def Cl.kept (c : Cl) (z : Int) (r : Int × Int) : Cl := ⟨setL c.bs (saveL (saveS z) r), 0, false, c.writes + 14⟩
section
variable {ad : Int → Addr} {W w : World} {b g s : Nat} {c : Cl} {a : (Int × Int) × Int}
theorem St.len2 (h : St W w b g s c a) : saveS a.2 * 13 + 13 ≤ c.bs.length := by
  have := h.len.1
  rcases saveS_le a.2 with e | e <;> rw [e] <;> omega
theorem save_kept (h : St W w b g s c a) (hf : c.fuse = 0) {r : Int × Int} (hr : badE a.1 r = 0) : save c a r = (c.kept a.2 r, (r, (saveS a.2 : Int)), 0) := by
  have hp := putsL_fuse (saveL (saveS a.2) r) c h.up (by omega) (saveL_in _ r h.len2)
  rw [if_neg (by omega), if_neg (by omega), saveL_len] at hp
  rw [save, if_pos hr, hp]
  rfl
theorem save_blown (h : St W w b g s c a) (hf : 0 < c.fuse ∧ c.fuse ≤ 14) {r : Int × Int} (hr : badE a.1 r = 0) :
    save c a r = (⟨setL c.bs ((saveL (saveS a.2) r).take (c.fuse.toNat - 1)), 0, true, c.writes + (c.fuse - 1)⟩, a, 105) := by
  have hp := putsL_fuse (saveL (saveS a.2) r) c h.up (by omega) (saveL_in _ r h.len2)
  rw [if_pos ⟨hf.1, by rw [saveL_len]; exact hf.2⟩] at hp
  rw [save, if_pos hr, hp]
  rfl
theorem save_fused (h : St W w b g s c a) (hf : 14 < c.fuse) {r : Int × Int} (hr : badE a.1 r = 0) : save c a r = ({ c.kept a.2 r with fuse := c.fuse - 14 }, (r, (saveS a.2 : Int)), 0) := by
  have hp := putsL_fuse (saveL (saveS a.2) r) c h.up (by omega) (saveL_in _ r h.len2)
  rw [if_neg (by rw [saveL_len]; omega), if_pos (by omega), saveL_len] at hp
  rw [save, if_pos hr, hp]
  rfl
theorem kept_ok (h : c.ok) (z : Int) (r : Int × Int) : (c.kept z r).ok := ⟨by simp [Cl.kept], by simp [Cl.kept], setL_b h.2.2 (saveL_b _ r)⟩
theorem kept_len (z : Int) (r : Int × Int) : (c.kept z r).bs.length = c.bs.length := setL_len _ _
def GivesSt (ad : Int → Addr) (W w : World) (b g s : Nat) (c : Cl) (a : (Int × Int) × Int) (k : Int) (e : Ending) (w' : World) : Prop := e = .returned (errV ad k) ∧ St W w' b g s c a ∧ Eff (At3 b g s) w w'
theorem at3_below (h : St W w b g s c a) {w' : World} (he : Eff (At3 b g s) w w') : Below W.heap.size W w' :=
  he.below h.below h.below.size (fun i hi q => by have := h.new; rcases q with rfl | rfl | rfl <;> omega)
/-- A right record, and no fuse: it is kept. -/
theorem st_save (hE : Errs4 ad W) (h : St W w b g s c a) (hf : c.fuse = 0) (r : Int × Int) (hr : badE a.1 r = 0) (hw : c.writes + 14 < 1000000) :
    Calls Tryd.prog 30 #[.pointer (some ⟨s, 0, none⟩), .agg #[.int .i64 r.1, .int .i64 r.2]] w (GivesSt ad W w b g s (c.kept a.2 r) (r, (saveS a.2 : Int)) 0) := by
  refine (save_any r W w hE h.below h.new.1 h.new.2.1 h.cell h.store h.ne.1 h.ne.2 h.ok ⟨h.writes.1, by have := h.writes.2; omega⟩ h.at_).mono ?_
  rintro e w' ⟨he, hc, hs, hx⟩
  rw [save_kept h hf hr] at he hc hs
  have hw0 := h.writes
  exact ⟨he, ⟨hc, hs, kept_ok h.ok _ _, by rw [kept_len]; exact h.len, rfl, by simp only [Cl.kept]; omega, by rcases saveS_le a.2 with e | e <;> rw [e] <;> exact ⟨by simp, by simp⟩, at3_below h hx, h.new, h.ne⟩, hx⟩
/-- A wrong one: it is told. -/
theorem st_bad (hE : Errs4 ad W) (h : St W w b g s c a) (r : Int × Int) (hr : badE a.1 r ≠ 0) :
    Calls Tryd.prog 30 #[.pointer (some ⟨s, 0, none⟩), .agg #[.int .i64 r.1, .int .i64 r.2]] w (GivesSt ad W w b g s c a (badE a.1 r)) := by
  refine (save_any r W w hE h.below h.new.1 h.new.2.1 h.cell h.store h.ne.1 h.ne.2 h.ok ⟨h.writes.1, by have := h.writes.2; omega⟩ h.at_).mono ?_
  rintro e w' ⟨he, hc, hs, hx⟩
  rw [show save c a r = (c, a, badE a.1 r) from if_neg hr] at he hc hs
  exact ⟨he, ⟨hc, hs, h.ok, h.len, h.up, h.writes, h.at_, at3_below h hx, h.new, h.ne⟩, hx⟩
def GivesOpen (W w : World) (b g s : Nat) (c : Cl) (a : (Int × Int) × Int) (e : Ending) (w' : World) : Prop :=
  ∃ t, e = .returned (.tuple #[.pointer (some ⟨t, 0, none⟩), .nilIface]) ∧ St W w' b g t c (openR c.bs) ∧ St W w' b g s c a ∧ Below w.heap.size w w' ∧ w.heap.size ≤ t
theorem st_open (hE : Errs4 ad W) (h : St W w b g s c a) : Calls Tryd.prog 28 #[.pointer (some ⟨b, 0, none⟩)] w (GivesOpen W w b g s c a) := by
  refine (open_any w (hE.below h.below) h.cell h.ok h.up h.len.1 h.len.2).mono ?_
  rintro e w' ⟨t, he, ht, hlt, hb⟩
  have h2 := h.on hb
  have hl := h.cell.lt
  exact ⟨t, he, ⟨h2.cell, ht, h.ok, h.len, h.up, h.writes, openR_rng _, h2.below, ⟨h.new.1, h.new.2.1, Nat.le_trans h.below.size hlt⟩, by omega, by omega⟩, h2, hb, hlt⟩
end
theorem rec_count (x y : Int) (w : World) : (Instr.field 59 (.agg #[.int .i64 x, .int .i64 y]) 0).run Tryd.prog w = .ok (.int .i64 x) w := by kernel_rfl
theorem rec_life (x y : Int) (w : World) : (Instr.field 59 (.agg #[.int .i64 x, .int .i64 y]) 1).run Tryd.prog w = .ok (.int .i64 y) w := by kernel_rfl
set_option maxRecDepth 100000 in
set_option maxHeartbeats 1600000 in
theorem first3_any {ad : Int → Addr} (w : World) (hE : Errs4 ad w) : Calls Tryd.prog 27 #[] w (SaysTrue w) := by
  have hfl := rec_count
  go_enter Tryd.func27, Tryd.ntmps27
  go_wp2_with fail
  refine (opened_any w hE (Below.refl _ _)).mono ?_
  rintro e w1 ⟨s, b, g, rfl, hS1, _⟩
  have hr := record_any w1 hS1.store
  go_wp2_with fail
  refine hr.mono ?_
  rintro e w2 ⟨rfl, hb2⟩
  have hS2 := hS1.on hb2
  clear hr hS1 hb2
  have hv := st_save hE hS2 rfl (1, 0) (by decide) (by decide)
  go_wp2_with fail
  refine hv.mono ?_
  rintro e w3 ⟨rfl, hS3, _⟩
  rw [errV_zero]
  clear hv hS2
  have hr := record_any w3 hS3.store
  go_wp2_with fail
  refine hr.mono ?_
  rintro e w4 ⟨rfl, hb4⟩
  have hS4 := hS3.on hb4
  clear hr hS3 hb4
  go_wp2_with fail
  go_ret
  exact ⟨rfl, hS4.below⟩
end Go.Proofs.YtmfdpjijpbgjbaaDoor
