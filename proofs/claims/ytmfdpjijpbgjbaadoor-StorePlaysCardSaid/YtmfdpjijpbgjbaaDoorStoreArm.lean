/- A store, and the power that goes within a save. -/
import Derived.Test.YtmfdpjijpbgjbaaDoorStoreSmallWalk
namespace Go.Proofs.YtmfdpjijpbgjbaaDoor
open Go.RowKit
set_option linter.unusedSimpArgs false

theorem put_up {c : Cl} (hd : c.down = false) (hf : c.fuse = 0) {i : Int} (hi : c.is i = true) (x : Int) : c.put i x = ⟨c.bs.set i.toNat x, 0, false, c.writes + 1⟩ := by
  obtain ⟨bs, f, d, ws⟩ := c
  obtain rfl : d = false := hd
  obtain rfl : f = 0 := hf
  have hg : Cl.gone ⟨bs, 0, false, ws⟩ = ⟨bs, 0, false, ws⟩ := by simp [Cl.gone]
  simp only [Cl.put, hg]
  simp [hi]
/-- As St, with or without power. -/
structure Sd (W w : World) (b g s : Nat) (c : Cl) (a : (Int × Int) × Int) : Prop where
  cell : CellIs w b g c
  store : StoreIs w s b a
  ok : c.ok
  len : 26 ≤ c.bs.length ∧ c.bs.length ≤ 4096
  writes : 0 ≤ c.writes ∧ c.writes < 1000000
  at_ : -1 ≤ a.2 ∧ a.2 ≤ 1
  below : Below W.heap.size W w
  new : W.heap.size ≤ b ∧ W.heap.size ≤ g ∧ W.heap.size ≤ s
  ne : s ≠ b ∧ s ≠ g
section
variable {ad : Int → Addr} {W w w' : World} {b g s : Nat} {c : Cl} {a : (Int × Int) × Int}
theorem Sd.on (h : Sd W w b g s c a) (hb : Below w.heap.size w w') : Sd W w' b g s c a :=
  ⟨h.cell.below hb, (Eff.of_below (S := fun _ => False) hb).blk h.store (fun h => h), h.ok, h.len, h.writes, h.at_, h.below.trans (hb.mono h.below.size), h.new, h.ne⟩
theorem St.sd (h : St W w b g s c a) : Sd W w b g s c a := ⟨h.cell, h.store, h.ok, h.len, h.writes, h.at_, h.below, h.new, h.ne⟩
theorem Sd.st (h : Sd W w b g s c a) (hd : c.down = false) : St W w b g s c a := ⟨h.cell, h.store, h.ok, h.len, hd, h.writes, h.at_, h.below, h.new, h.ne⟩
theorem at2_W (h : Sd W w b g s c a) {w' : World} (he : Eff (At2 b g) w w') : Below W.heap.size W w' :=
  he.below h.below h.below.size (fun i hi q => by have := h.new; rcases q with rfl | rfl <;> omega)
theorem sd_back (h : Sd W w b g s c a) : Calls Tryd.prog 17 #[.pointer (some ⟨b, 0, none⟩)] w fun e w' => e = .returned (.tuple #[]) ∧ St W w' b g s c.back a ∧ Eff (At3 b g s) w w' := by
  refine (back_any w h.cell).mono ?_
  rintro e w' ⟨he, hc, hx⟩
  exact ⟨he, ⟨hc, hx.blk h.store (fun q => by rcases q with q | q; exact h.ne.1 q; exact h.ne.2 q), Cl.back_ok h.ok, h.len, rfl, h.writes, h.at_, at2_W h hx, h.new, h.ne⟩, hx.mono (fun i _ q => by rcases q with q | q <;> simp [At3, q])⟩
theorem st_arm (h : St W w b g s c a) (n : Int) (hn : n ≤ 9223372036854775807) : Calls Tryd.prog 15 #[.pointer (some ⟨b, 0, none⟩), .int .i64 n] w fun e w' => e = .returned (.tuple #[]) ∧ St W w' b g s (c.arm n) a ∧ Eff (At3 b g s) w w' := by
  refine (arm_any n w h.cell).mono ?_
  rintro e w' ⟨he, hc, hx⟩
  exact ⟨he, ⟨hc, hx.blk h.store (fun q => by rcases q with q | q; exact h.ne.1 q; exact h.ne.2 q), Cl.arm_ok h.ok n hn, h.len, h.up, h.writes, h.at_, at2_W h.sd hx, h.new, h.ne⟩, hx.mono (fun i _ q => by rcases q with q | q <;> simp [At3, q])⟩
/-- The power goes within the save. -/
def Cl.torn (c : Cl) (z : Int) (r : Int × Int) : Cl := ⟨setL c.bs ((saveL (saveS z) r).take (c.fuse.toNat - 1)), 0, true, c.writes + (c.fuse - 1)⟩
theorem st_blown (hE : Errs4 ad W) (h : St W w b g s c a) (hf : 0 < c.fuse ∧ c.fuse ≤ 14) (r : Int × Int) (hr : badE a.1 r = 0) (hw : c.writes + 14 < 1000000) :
    Calls Tryd.prog 30 #[.pointer (some ⟨s, 0, none⟩), .agg #[.int .i64 r.1, .int .i64 r.2]] w fun e w' => e = .returned (errV ad 105) ∧ Sd W w' b g s (c.torn a.2 r) a ∧ Eff (At3 b g s) w w' := by
  refine (save_any r W w hE h.below h.new.1 h.new.2.1 h.cell h.store h.ne.1 h.ne.2 h.ok ⟨h.writes.1, by have := h.writes.2; omega⟩ h.at_).mono ?_
  rintro e w' ⟨he, hc, hs, hx⟩
  rw [save_blown h hf hr] at he hc hs
  have hw0 := h.writes
  exact ⟨he, ⟨hc, hs, ⟨by simp [Cl.torn], by simp [Cl.torn], setL_b h.ok.2.2 (fun p hp => saveL_b _ r p (List.mem_of_mem_take hp))⟩, by simp only [Cl.torn, setL_len]; exact h.len, by simp only [Cl.torn]; omega, h.at_, at3_below h hx, h.new, h.ne⟩, hx⟩
/-- The power goes behind it, if at all. -/
theorem st_fused (hE : Errs4 ad W) (h : St W w b g s c a) (hf : 14 < c.fuse) (r : Int × Int) (hr : badE a.1 r = 0) (hw : c.writes + 14 < 1000000) :
    Calls Tryd.prog 30 #[.pointer (some ⟨s, 0, none⟩), .agg #[.int .i64 r.1, .int .i64 r.2]] w (GivesSt ad W w b g s ({ c.kept a.2 r with fuse := c.fuse - 14 }) (r, (saveS a.2 : Int)) 0) := by
  refine (save_any r W w hE h.below h.new.1 h.new.2.1 h.cell h.store h.ne.1 h.ne.2 h.ok ⟨h.writes.1, by have := h.writes.2; omega⟩ h.at_).mono ?_
  rintro e w' ⟨he, hc, hs, hx⟩
  rw [save_fused h hf hr] at he hc hs
  have hw0 := h.writes
  have hk := kept_ok h.ok a.2 r
  have hf2 := h.ok.2.1
  exact ⟨he, ⟨hc, hs, ⟨by simp only; omega, by simp only; omega, hk.2.2⟩, by simp only [kept_len]; exact h.len, rfl, by simp only [Cl.kept]; omega, by rcases saveS_le a.2 with e | e <;> rw [e] <;> exact ⟨by simp, by simp⟩, at3_below h hx, h.new, h.ne⟩, hx⟩
theorem torn_open (hl : 26 ≤ c.bs.length) (ho : openR c.bs = a) (r : Int × Int) (hf : c.fuse ≤ 14) : openR (c.torn a.2 r).back.bs = a := by
  subst ho
  exact open_part hl r (by omega)
end
end Go.Proofs.YtmfdpjijpbgjbaaDoor
