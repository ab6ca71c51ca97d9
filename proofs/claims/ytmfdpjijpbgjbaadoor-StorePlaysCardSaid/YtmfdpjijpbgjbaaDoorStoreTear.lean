/- A store, and saves that the power may leave. -/
import Derived.Test.YtmfdpjijpbgjbaaDoorStoreRawWalk
import Derived.Test.YtmfdpjijpbgjbaaDoorRegions2
namespace Go.Proofs.YtmfdpjijpbgjbaaDoor
open Go.RowKit
set_option linter.unusedSimpArgs false

theorem kept_w (c : Cl) (z : Int) (r : Int × Int) : (c.kept z r).writes = c.writes + 14 := rfl
section
variable {ad : Int → Addr} {W w : World} {b g s : Nat} {c : Cl} {a : (Int × Int) × Int}
/-- The power lasts: it is kept. -/
theorem sd_saved (hE : Errs4 ad W) (h : St W w b g s c a) (ho : openR c.bs = a) (hf : c.fuse = 0 ∨ 14 < c.fuse) (r : Int × Int) (hr : badE a.1 r = 0) (hw : c.writes + 14 < 1000000) :
    Calls Tryd.prog 30 #[.pointer (some ⟨s, 0, none⟩), .agg #[.int .i64 r.1, .int .i64 r.2]] w fun e w' => e = .returned .nilIface ∧ Eff (At3 b g s) w w' ∧
      ∃ c', Sd W w' b g s c' (r, (saveS a.2 : Int)) ∧ c'.down = false ∧ openR c'.back.bs = (r, (saveS a.2 : Int)) ∧ c'.writes = c.writes + 14 := by
  have hk := kept_open h.len.1 ho hr
  rcases hf with hf | hf
  · refine (st_save hE h hf r hr hw).mono ?_
    intro e w' h2
    obtain ⟨he, hS, hx⟩ := h2
    exact ⟨he, hx, _, hS.sd, hS.up, by dsimp only [Cl.back]; exact hk, kept_w c a.2 r⟩
  · refine (st_fused hE h hf r hr hw).mono ?_
    intro e w' h2
    obtain ⟨he, hS, hx⟩ := h2
    exact ⟨he, hx, _, hS.sd, hS.up, by dsimp only [Cl.back]; exact hk, by dsimp only; exact kept_w c a.2 r⟩
theorem sd_torn (hE : Errs4 ad W) (h : St W w b g s c a) (ho : openR c.bs = a) (hf : 0 < c.fuse ∧ c.fuse ≤ 14) (r : Int × Int) (hr : badE a.1 r = 0) (hw : c.writes + 14 < 1000000) :
    Calls Tryd.prog 30 #[.pointer (some ⟨s, 0, none⟩), .agg #[.int .i64 r.1, .int .i64 r.2]] w fun e w' => e = .returned (errV ad 105) ∧ Eff (At3 b g s) w w' ∧
      ∃ c', Sd W w' b g s c' a ∧ c'.down = true ∧ openR c'.back.bs = a ∧ c'.writes ≤ c.writes + 14 := by
  have hk := torn_open h.len.1 ho r hf.2
  refine (st_blown hE h hf r hr hw).mono ?_
  rintro e w' ⟨rfl, hS, hx⟩
  exact ⟨rfl, hx, _, hS, rfl, hk, by dsimp only [Cl.torn]; omega⟩
end
/-- A block beside is turned. -/
theorem St.off1 {W w w' : World} {b g s t : Nat} {c : Cl} {a : (Int × Int) × Int} (h : St W w b g s c a) (he : Eff (· = t) w w') (hn : t ≠ b ∧ t ≠ g ∧ t ≠ s) (hW : W.heap.size ≤ t) : St W w' b g s c a :=
  ⟨h.cell.eff he (fun q => hn.1 q.symm) (fun q => hn.2.1 q.symm), he.blk h.store (fun q => hn.2.2 q.symm), h.ok, h.len, h.up, h.writes, h.at_, he.below h.below h.below.size (fun i hi q => by omega), h.new, h.ne⟩
theorem arm_zero {c : Cl} (h : c.fuse = 0) : c.arm 0 = c := by
  obtain ⟨bs, f, d, ws⟩ := c
  obtain rfl : f = 0 := h
  rfl
/-- What is to be saved next: right, unless it is the same. -/
theorem step_bad {x y p q : Int} (h : 0 ≤ x ∧ x ≤ 100 ∧ 0 ≤ y ∧ y ≤ 100) (hp : 0 ≤ p ∧ p ≤ 2 ∧ 0 ≤ q ∧ q ≤ 2) (hn : ¬ (p = 0 ∧ q = 0)) : badE (x, y) (x + p, y + q) = 0 := by
  unfold badE
  rw [if_neg (by simp only; omega), if_neg (by simp only [Prod.mk.injEq]; omega)]
theorem step_same {x y : Int} (h : 0 ≤ x ∧ x ≤ 100 ∧ 0 ≤ y ∧ y ≤ 100) : badE (x, y) (x, y) = 108 := by
  unfold badE
  rw [if_neg (by simp only; omega), if_pos (by simp)]
def TearRel (W : World) (b g tn n : Nat) (s i : Value) (wr : World) : Prop :=
  ∃ k : Nat, k ≤ n ∧ i = .int .i64 k ∧ ∃ sb c x y z, s = .pointer (some ⟨sb, 0, none⟩) ∧ St W wr b g sb c ((x, y), z) ∧ c.fuse = 0 ∧ openR c.bs = ((x, y), z) ∧ c.writes ≤ 14 * (k : Int) ∧ (0 ≤ x ∧ x ≤ 2 * (k : Int)) ∧ (0 ≤ y ∧ y ≤ 2 * (k : Int)) ∧
    Blk wr tn [.int .i64 x, .int .i64 y] 59 ∧ tn ≠ b ∧ tn ≠ g ∧ tn ≠ sb ∧ W.heap.size ≤ tn
attribute [irreducible] TearRel
def ArmRel (W : World) (b g sb tn tx : Nat) (c : Cl) (a : (Int × Int) × Int) (r : Int × Int) (wx : World) : Prop :=
  ∃ f : Nat, f ≤ 17 ∧ St W wx b g sb (c.arm f) a ∧ Blk wx tn [.int .i64 a.1.1, .int .i64 a.1.2] 59 ∧ Blk wx tx [.int .i64 r.1, .int .i64 r.2] 59
end Go.Proofs.YtmfdpjijpbgjbaaDoor
