/- CellPlays: the walk. -/
import Derived.Test.YtmfdpjijpbgjbaaDoorCellFirst
import Derived.Test.YtmfdpjijpbgjbaaDoorCellRef
namespace Go.Proofs.YtmfdpjijpbgjbaaDoor
open Go.RowKit
set_option linter.unusedSimpArgs false

structure PDo where
  kind : Int
  n : Int
  b : Int
def PDo.cells (d : PDo) : List Value := [.int .i64 d.kind, .int .i64 d.n, .int .u8 d.b]
theorem PDo.len (d : PDo) : d.cells.length = 3 := rfl
def PDo.ok (d : PDo) : Prop := d.n ≤ 9223372036854775807 ∧ 0 ≤ d.b ∧ d.b ≤ 255

/-- What a memory is told. -/
def Cl.told (c : Cl) (d : PDo) : Cl := if d.kind = 1 then c.put d.n d.b else if d.kind = 2 then c.arm d.n else if d.kind = 3 then c.back else c
theorem Cl.told_ok {c : Cl} (h : c.ok) {d : PDo} (hd : d.ok) : (c.told d).ok := by
  unfold Cl.told
  split
  · exact Cl.put_ok h _ _ hd.2
  · split
    · exact Cl.arm_ok h _ hd.1
    · split
      · exact Cl.back_ok h
      · exact h
theorem Cl.told_len (c : Cl) (d : PDo) : (c.told d).bs.length = c.bs.length := by
  unfold Cl.told
  split
  · exact Cl.put_len _ _ _
  · split
    · rfl
    · split <;> rfl
theorem Cl.told_writes (c : Cl) (d : PDo) : c.writes ≤ (c.told d).writes ∧ (c.told d).writes ≤ c.writes + 1 := by
  unfold Cl.told
  split
  · rw [Cl.put_writes]; split <;> omega
  · split
    · simp [Cl.arm]; omega
    · split <;> (first | simp [Cl.back] | simp) <;> omega

def PlaysRel (W : World) (b g rb rg n m : Nat) (i : Value) (wr : World) : Prop :=
  ∃ (k : Nat) (c : Cl), k ≤ m ∧ i = .int .i64 k ∧ CellIs wr b g c ∧ RefAt wr rb rg c ∧ Below W.heap.size W wr ∧ c.ok ∧ c.bs.length = n ∧ 0 ≤ c.writes ∧ c.writes ≤ k
def PlaysMid (W : World) (b g rb rg bc gc : Nat) (c2 c : Cl) (wr : World) : Prop :=
  CellIs wr b g c2 ∧ RefAt wr rb rg c2 ∧ CellIs wr bc gc c ∧ Below W.heap.size W wr
def PlaysRead (W : World) (b g rb rg bc gc n : Nat) (c2 c : Cl) (i : Value) (wr : World) : Prop :=
  ∃ j : Nat, j ≤ n + 2 ∧ i = .int .i64 ((j : Int) - 1) ∧ CellIs wr b g c2 ∧ RefAt wr rb rg c2 ∧ CellIs wr bc gc c ∧ Below W.heap.size W wr
attribute [irreducible] PlaysRel PlaysRead

/-- The document's cell, made by hand: a row, and the struct behind it. -/
theorem ref_boxed {B n : Nat} {w1 : World} {v : Value} (ho : w1.ownsRow B 5 1 v n ((Cl.new n).bs.map (Value.int .u8))) (hn : 0 < n) :
    ∃ g, B ≤ g ∧ RefAt (w1.alloc (.cells #[v, .int .i64 0, .int .i64 0, .bool false] 43)) w1.heap.size g (Cl.new n) := by
  rcases ho.2 with ⟨_, h⟩ | ⟨g, cap, cur, rfl, h3, h4, h5, h6, h7, h8⟩
  · omega
  · have hlt : g < w1.heap.size := (Array.getElem?_eq_some_iff.1 h4).1
    have hg : Blk w1 g cur.toList 5 := by simpa [Blk] using h4
    have hl : (Cl.new n).bs.length = n := by simp [Cl.new]
    refine ⟨g, h3, by omega, cap, cur.toList, ?_, hg.alloc _, by rw [hl]; exact h5, by simp; omega, h6, by rw [hl]; simpa using h8⟩
    rw [hl]
    exact Blk.new w1 _ _

theorem ref_arm {w : World} {b g : Nat} {c : Cl} (n : Int) (h : RefAt w b g c) : RefAt (w.setCell ⟨b, 1, none⟩ (.int .i64 (max n 0))) b g (c.arm n) ∧ Eff (At2 b g) w (w.setCell ⟨b, 1, none⟩ (.int .i64 (max n 0))) := by
  obtain ⟨hne, cap, cur, hb, hg, r⟩ := h
  exact ⟨⟨hne, cap, cur, hb.set 1 _, hg.set_ne (fun h => hne h.symm) _ _ _, r⟩, (Eff.refl _ w).setCell (p := ⟨b, 1, none⟩) (fun _ => .inl rfl) _⟩
theorem ref_free {w : World} {b g : Nat} {c : Cl} (h : RefAt w b g c) : w.frozen? ⟨b, 1, none⟩ = false := by
  obtain ⟨hne, cap, cur, hb, hg, r⟩ := h
  exact hb.frozen 1
theorem ref_left {w : World} {b g : Nat} {c : Cl} (h : RefAt w b g c) : w.cell? ⟨b, 1, none⟩ = some (.int .i64 c.fuse) := by
  obtain ⟨hne, cap, cur, hb, hg, r⟩ := h
  exact hb.cell 1
theorem ref_writes {w : World} {b g : Nat} {c : Cl} (h : RefAt w b g c) : w.cell? ⟨b, 2, none⟩ = some (.int .i64 c.writes) := by
  obtain ⟨hne, cap, cur, hb, hg, r⟩ := h
  exact hb.cell 2
theorem ref_down {w : World} {b g : Nat} {c : Cl} (h : RefAt w b g c) : w.cell? ⟨b, 3, none⟩ = some (.bool c.down) := by
  obtain ⟨hne, cap, cur, hb, hg, r⟩ := h
  exact hb.cell 3

set_option maxRecDepth 100000 in
set_option maxHeartbeats 4000000 in
theorem cellPlays_out {ad : Int → Addr} (n : Int) (A : Option Addr) (cp : Nat) (m : Nat) (w : World) (hE : Errs ad w) (hn : n < 1 ∨ 4096 < n) :
    Calls Tryd.prog 5 #[.int .i64 n, .slice A m cp] w (SaysTrue w) := by
  have hN := hid hn
  rcases hn with hn | hn
  · go_enter Tryd.func5, Tryd.ntmps5
    go_wp2_with fail
    refine (first_any _ hE).mono ?_
    rintro e w1 ⟨rfl, hB1⟩
    go_wp2_with fail
    refine (new_no n _ (hE.below hB1).four hN.out).mono ?_
    rintro e w2 ⟨rfl, q, rfl⟩
    go_wp2_with fail
    refine (is_any 103 (hE.below (below_drewN hB1 q)) bare_103).mono ?_
    rintro e w3 ⟨rfl, hb3⟩
    go_wp2_with fail
    go_ret
    exact ⟨rfl, (below_drewN hB1 q).trans (hb3.mono (below_drewN hB1 q).size)⟩
  · have hn1 : ¬ n < 1 := by omega
    go_enter Tryd.func5, Tryd.ntmps5
    go_wp2_with fail
    refine (first_any _ hE).mono ?_
    rintro e w1 ⟨rfl, hB1⟩
    go_wp2_with fail
    refine (new_no n _ (hE.below hB1).four hN.out).mono ?_
    rintro e w2 ⟨rfl, q, rfl⟩
    go_wp2_with fail
    refine (is_any 103 (hE.below (below_drewN hB1 q)) bare_103).mono ?_
    rintro e w3 ⟨rfl, hb3⟩
    go_wp2_with fail
    go_ret
    exact ⟨rfl, (below_drewN hB1 q).trans (hb3.mono (below_drewN hB1 q).size)⟩

set_option maxRecDepth 100000 in
set_option maxHeartbeats 4000000 in
theorem cellPlays_wide {ad : Int → Addr} (n : Nat) (A : Option Addr) (cp : Nat) (m : Nat) (w : World) (hE : Errs ad w) (hn1 : 1 ≤ n) (hn2 : n ≤ 4096) (hm : m ≤ 9223372036854775807) (hw : 40 < n ∨ 60 < m) :
    Calls Tryd.prog 5 #[.int .i64 n, .slice A m cp] w (SaysTrue w) := by
  have g1 : ¬ (n : Int) < 1 := by omega
  have g2 : ¬ 4096 < (n : Int) := by omega
  by_cases h40 : 40 < n
  · have h40' : 40 < (n : Int) := by omega
    clear hw
    go_enter Tryd.func5, Tryd.ntmps5
    go_wp2_with fail
    refine (first_any _ hE).mono ?_
    rintro e w1 ⟨rfl, hB1⟩
    go_wp2_with fail
    refine (new_yes n _ hn1 hn2).mono ?_
    rintro e w2 ⟨b, g, rfl, hc2, hbB, hgB, hb2⟩
    go_wp2_with fail
    go_ret
    exact ⟨rfl, hB1.trans (hb2.mono hB1.size)⟩
  · have h40' : ¬ 40 < (n : Int) := by omega
    have h60 : 60 < (m : Int) := by omega
    clear hw
    go_enter Tryd.func5, Tryd.ntmps5
    go_wp2_with fail
    refine (first_any _ hE).mono ?_
    rintro e w1 ⟨rfl, hB1⟩
    go_wp2_with fail
    refine (new_yes n _ hn1 hn2).mono ?_
    rintro e w2 ⟨b, g, rfl, hc2, hbB, hgB, hb2⟩
    go_wp2_with fail
    go_ret
    exact ⟨rfl, hB1.trans (hb2.mono hB1.size)⟩
end Go.Proofs.YtmfdpjijpbgjbaaDoor
