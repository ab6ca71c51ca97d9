/- StorePlays: a memory and the document's, side by side. -/
import Derived.Test.YtmfdpjijpbgjbaaDoorRefSave
import Derived.Test.YtmfdpjijpbgjbaaDoorCellPlaysWalk
namespace Go.Proofs.YtmfdpjijpbgjbaaDoor
open Go.RowKit
set_option linter.unusedSimpArgs false

/-- Two memories, of the same bytes. -/
structure Bo (W w : World) (b g rb rg n : Nat) (c : Cl) : Prop where
  cell : CellIs w b g c
  ref : RefAt w rb rg c
  ok : c.ok
  len : c.bs.length = 30
  up : c.down = false
  fuse : c.fuse = 0
  ws : 0 ≤ c.writes ∧ c.writes ≤ (n : Int)
  below : Below W.heap.size W w
def Far (W : World) (b g rb rg : Nat) : Prop := (W.heap.size ≤ b ∧ W.heap.size ≤ g ∧ W.heap.size ≤ rb ∧ W.heap.size ≤ rg) ∧ b ≠ rb ∧ b ≠ rg ∧ g ≠ rb ∧ g ≠ rg
def Cl.laid (c : Cl) (i : Nat) (x : Int) : Cl := ⟨c.bs.set i x, 0, false, c.writes + 1⟩
section
variable {ad : Int → Addr} {W w : World} {b g rb rg n : Nat} {c : Cl}
theorem bo_put (hE : Errs4 ad W) (hF : Far W b g rb rg) (h : Bo W w b g rb rg n c) (hn : n ≤ 1000) (i : Nat) (hi : i < 30) (x : Int) :
    Calls Tryd.prog 16 #[.pointer (some ⟨b, 0, none⟩), .int .i64 i, .int .u8 x] w fun e w' => e = .returned .nilIface ∧ CellIs w' b g (c.laid i x) ∧ RefAt w' rb rg c ∧ Below W.heap.size W w' := by
  have his : c.is (i : Int) = true := by simp only [Cl.is, Bool.and_eq_true, decide_eq_true_eq, h.len]; omega
  have he : c.putE (i : Int) = 0 := by
    have hg : c.gone = c := by unfold Cl.gone; rw [if_neg]; intro q; have := q.2; have := h.fuse; omega
    unfold Cl.putE
    rw [hg, h.up, his]
    rfl
  have hp := put_up h.up h.fuse his x
  rw [Int.toNat_natCast] at hp
  refine (put_any (i : Int) x w (hE.below h.below) h.cell h.ok ⟨h.ws.1, by have := h.ws.2; omega⟩).mono ?_
  intro e w' q
  obtain ⟨h1, h2, h3⟩ := q
  rw [he, errV_zero] at h1
  rw [hp] at h2
  exact ⟨h1, h2, h.ref.off h3 (fun e => hF.2.1 e.symm) (fun e => hF.2.2.2.1 e.symm) (fun e => hF.2.2.1 e.symm) (fun e => hF.2.2.2.2 e.symm), at2_below h.below h3 hF.1.1 hF.1.2.1⟩
theorem bo_put2 {i : Nat} {x : Int} (hF : Far W b g rb rg) (hc : CellIs w b g (c.laid i x)) (hr : RefAt w rb rg c) (hB : Below W.heap.size W w) (hok : c.ok) (hl : c.bs.length = 30) (hd : c.down = false) (hf : c.fuse = 0) (hw : 0 ≤ c.writes ∧ c.writes ≤ (n : Int)) (hn : n ≤ 1000) (hi : i < 30) (hx : 0 ≤ x ∧ x ≤ 255) :
    Calls Tryd.prog 23 #[.pointer (some ⟨rb, 0, none⟩), .int .i64 i, .int .u8 x] w fun e w' => e = .returned (.int .i64 0) ∧ Bo W w' b g rb rg (n + 1) (c.laid i x) := by
  obtain ⟨bs, f, d, ws⟩ := c
  obtain rfl : d = false := hd
  obtain rfl : f = 0 := hf
  refine (refPut_up i x w hr hok.2.2 (by simp only at hl; omega) ⟨hw.1, by have := hw.2; simp only at this ⊢; omega⟩).mono ?_
  intro e w' q
  obtain ⟨h1, h2, h3⟩ := q
  refine ⟨h1, hc.off h3 hF.2.1 hF.2.2.1 hF.2.2.2.1 hF.2.2.2.2, h2, ⟨by simp [Cl.laid], by simp [Cl.laid], fun y hy => ?_⟩, by simpa [Cl.laid] using hl, rfl, rfl, by simp only [Cl.laid]; simp only at hw; omega, at2_below hB h3 hF.1.2.2.1 hF.1.2.2.2⟩
  rcases List.mem_or_eq_of_mem_set hy with hy | rfl
  · exact hok.2.2 y hy
  · exact hx
end
/-- The document's store, beside. -/
structure Rt (W w : World) (rb rg y : Nat) (c : Cl) (a : (Int × Int) × Int) : Prop where
  ref : RefAt w rb rg c
  st : RStIs w y rb a
  new : W.heap.size ≤ rb ∧ W.heap.size ≤ rg ∧ W.heap.size ≤ y
  ne : y ≠ rb ∧ y ≠ rg
def Dis (b g s rb rg y : Nat) : Prop := (b ≠ rb ∧ b ≠ rg ∧ b ≠ y) ∧ (g ≠ rb ∧ g ≠ rg ∧ g ≠ y) ∧ (s ≠ rb ∧ s ≠ rg ∧ s ≠ y)
section
variable {W w w' : World} {b g s rb rg y : Nat} {c c' : Cl} {a a' : (Int × Int) × Int}
theorem Rt.on (h : Rt W w rb rg y c a) (hb : Below w.heap.size w w') : Rt W w' rb rg y c a := ⟨h.ref.below hb, (Eff.of_below (S := fun _ => False) hb).blk h.st (fun h => h), h.new, h.ne⟩
theorem Rt.off (h : Rt W w rb rg y c a) (hD : Dis b g s rb rg y) (he : Eff (At3 b g s) w w') : Rt W w' rb rg y c a := by
  obtain ⟨⟨d1, d2, d3⟩, ⟨d4, d5, d6⟩, d7, d8, d9⟩ := hD
  exact ⟨h.ref.eff he (fun q => by rcases q with q | q | q <;> omega) (fun q => by rcases q with q | q | q <;> omega), he.blk h.st (fun q => by rcases q with q | q | q <;> omega), h.new, h.ne⟩
theorem St.off3 (h : St W w b g s c a) (hD : Dis b g s rb rg y) (hR : Rt W w rb rg y c' a') (he : Eff (At3 rb rg y) w w') : St W w' b g s c a := by
  obtain ⟨⟨d1, d2, d3⟩, ⟨d4, d5, d6⟩, d7, d8, d9⟩ := hD
  have hn := hR.new
  exact ⟨h.cell.eff he (fun q => by rcases q with q | q | q <;> omega) (fun q => by rcases q with q | q | q <;> omega), he.blk h.store (fun q => by rcases q with q | q | q <;> omega), h.ok, h.len, h.up, h.writes, h.at_,
    he.below h.below h.below.size (fun i hi q => by rcases q with q | q | q <;> omega), h.new, h.ne⟩
end
def recC (r : Int × Int) : List Value := [.int .i64 r.1, .int .i64 r.2]
theorem recC_len (r : Int × Int) : (recC r).length = 2 := rfl
def RawB (W : World) (b g rb rg len : Nat) (i : Value) (wr : World) : Prop := ∃ k : Nat, k ≤ len ∧ k ≤ 30 ∧ i = .int .i64 k ∧ ∃ c, Bo W wr b g rb rg k c
def PlRel (W : World) (b g s rb rg y n : Nat) (i : Value) (wr : World) : Prop :=
  ∃ k : Nat, k ≤ n ∧ i = .int .i64 k ∧ ∃ c a, St W wr b g s c a ∧ Rt W wr rb rg y c a ∧ c.fuse = 0 ∧ c.bs.length = 30 ∧ openR c.bs = a ∧ c.writes ≤ 30 + 14 * (k : Int)
def InRel (W : World) (b g s rb rg y : Nat) (c : Cl) (a : (Int × Int) × Int) (i : Value) (wr : World) : Prop := ∃ m : Nat, m ≤ 30 ∧ i = .int .i64 m ∧ St W wr b g s c a ∧ Rt W wr rb rg y c a
attribute [irreducible] RawB PlRel InRel
end Go.Proofs.YtmfdpjijpbgjbaaDoor
