/- A new memory, and a copy of one. -/
import Derived.Test.YtmfdpjijpbgjbaaDoorCellMake
import Derived.Test.YtmfdpjijpbgjbaaDoorCellWalks
namespace Go.Proofs.YtmfdpjijpbgjbaaDoor
open Go.RowKit
set_option linter.unusedSimpArgs false

/-- A cell of its own. -/
def GivesCell (w : World) (c : Cl) (e : Ending) (w' : World) : Prop := ∃ b g, e = .returned (.tuple #[.pointer (some ⟨b, 0, none⟩), .nilIface]) ∧ CellIs w' b g c ∧ w.heap.size ≤ b ∧ w.heap.size ≤ g ∧ Below w.heap.size w w'
def GivesClone (w : World) (c : Cl) (e : Ending) (w' : World) : Prop := ∃ b g, e = .returned (.pointer (some ⟨b, 0, none⟩)) ∧ CellIs w' b g c ∧ w.heap.size ≤ b ∧ w.heap.size ≤ g ∧ Below w.heap.size w w'

/-- A row of one's own, and a struct that is put behind it. -/
theorem cell_boxed {B : Nat} {w1 : World} {v : Value} {c : Cl} (ho : w1.ownsRow B 5 1 v c.bs.length (c.bs.map (Value.int .u8))) (hn : 0 < c.bs.length) :
    ∃ g, B ≤ g ∧ CellIs (w1.alloc (.cells #[v, .int .i64 c.fuse, .bool c.down, .int .i64 c.writes] 75)) w1.heap.size g c := by
  rcases ho.2 with ⟨_, h⟩ | ⟨g, cap, cur, rfl, h3, h4, h5, h6, h7, h8⟩
  · omega
  · have hlt : g < w1.heap.size := (Array.getElem?_eq_some_iff.1 h4).1
    have hg : Blk w1 g cur.toList 5 := by simpa [Blk] using h4
    refine ⟨g, h3, by omega, cap, cur.toList, Blk.new w1 _ _, hg.alloc _, h5, by simp; omega, h6, by simpa using h8⟩

set_option maxHeartbeats 800000 in
theorem new_no {ad : Int → Addr} (n : Int) (w : World) (hE : Errs4 ad w) (hn : n < 1 ∨ 4096 < n) :
    Calls Tryd.prog 14 #[.int .i64 n] w fun e w' => e = .returned (.tuple #[.pointer none, errV ad 103]) ∧ ∃ k, w' = w.drewN k := by
  have hr := hE.range
  clear hE
  rcases hn with hn | hn
  · go_enter Tryd.func14, Tryd.ntmps14
    go_wp2_with fail
    go_quiet (fail)
    go_wp2
    go_ret2
    exact ⟨rfl, _, rfl⟩
  · have hn' : ¬ n < 1 := by omega
    go_enter Tryd.func14, Tryd.ntmps14
    go_wp2_with fail
    go_quiet (fail)
    go_wp2
    go_ret2
    exact ⟨rfl, _, rfl⟩

set_option maxHeartbeats 800000 in
theorem new_yes (n : Nat) (w : World) (h1 : 1 ≤ n) (h2 : n ≤ 4096) : Calls Tryd.prog 14 #[.int .i64 n] w (GivesCell w (Cl.new n)) := by
  obtain ⟨i, hi, hz, hsz, hby⟩ := info_parts rowBytes.info
  have HI := hid (And.intro hi (And.intro hz (And.intro hsz hby)))
  have g1 : ¬ (n : Int) < 1 := by omega
  have g2 : ¬ 4096 < (n : Int) := by omega
  have hm : n ≤ maxLen := by unfold maxLen; omega
  have hb2 : i.bytes * n ≤ 281474976710656 := by rw [hby]; omega
  have HM := hid (And.intro hm hb2)
  clear hi hz hsz hby hm hb2
  go_enter Tryd.func14, Tryd.ntmps14
  go_wp2_with (at_make; refine wpList_make_full _ rfl _ _ 41 rfl w.heap.size 5 i (.int .u8 0) 1 Tryd.underlying41 HI.out.1 HI.out.2.1 HI.out.2.2.1 .i64 .i64 _ _ n rfl rfl rfl rfl HM.out.2 HM.out.1 (Nat.le_refl _) ?_; intro w1 hown hg)
  go_ret2
  have hcs : (madeCells (Value.int .u8 0).cells (n * 1)).toList = (Cl.new n).bs.map (Value.int .u8) := by
    rw [show (Value.int .u8 0).cells = #[Value.int .u8 0] from rfl, toList_madeCells_one]
    simp [Cl.new]
  rw [hcs] at hown
  have hlen : (Cl.new n).bs.length = n := by simp [Cl.new]
  have hB : Below w.heap.size w w1 := ⟨hg.os, hg.tape, hg.output, hg.size, fun k hk => hg.block k hk (by simp)⟩
  obtain ⟨g, hgB, hc⟩ := cell_boxed (c := Cl.new n) (by rw [hlen]; exact hown) (by omega)
  exact ⟨_, g, rfl, hc, hB.size, hgB, hB.alloc hB.size _⟩

set_option maxHeartbeats 1600000 in
theorem cellClone_any {b g : Nat} {c : Cl} (w : World) (hc : CellIs w b g c) (hn : 0 < c.bs.length) (hl : c.bs.length ≤ 1000000) : Calls Tryd.prog 20 #[.pointer (some ⟨b, 0, none⟩)] w (GivesClone w c) := by
  obtain ⟨hne, cap, cur, hb, hg, hcap, hcl, hcm, hcur⟩ := hc
  have hs : Sl w (some ⟨g, 0, none⟩) (c.bs.map (Value.int .u8)) := .inr ⟨g, 0, rfl, hg.lt, fun k hk => by
    rw [Nat.zero_add, hg.cell, ← hcur, List.getElem?_take_of_lt (by simpa using hk)]⟩
  have hs' : Sl w.drew (some ⟨g, 0, none⟩) (c.bs.map (Value.int .u8)) := hs
  have c0 : w.drew.cell? ⟨b, 0, none⟩ = some (.slice (some ⟨g, 0, none⟩) c.bs.length cap) := hb.cell 0
  have c1 : w.drew.cell? ⟨b, 1, none⟩ = some (.int .i64 c.fuse) := hb.cell 1
  have c2 : w.drew.cell? ⟨b, 2, none⟩ = some (.bool c.down) := hb.cell 2
  have c3 : w.drew.cell? ⟨b, 3, none⟩ = some (.int .i64 c.writes) := hb.cell 3
  have hlt : b < w.drew.heap.size := hb.lt
  clear hb hg hcur hcl hs
  go_enter Tryd.func20, Tryd.ntmps20
  go_wp2_with fail
  go_region_held3 (fun w' => w'.cell? ⟨b, 0, none⟩ = some (.slice (some ⟨g, 0, none⟩) c.bs.length cap) ∧ w'.cell? ⟨b, 1, none⟩ = some (.int .i64 c.fuse) ∧ w'.cell? ⟨b, 2, none⟩ = some (.bool c.down) ∧ w'.cell? ⟨b, 3, none⟩ = some (.int .i64 c.writes))
    (first
      | exact ⟨c0, c1, c2, c3⟩
      | exact ⟨d0, d1, d2, d3⟩
      | exact ⟨(World.cell?_alloc_lt _ _ _ hlt1).trans d0, (World.cell?_alloc_lt _ _ _ hlt1).trans d1, (World.cell?_alloc_lt _ _ _ hlt1).trans d2, (World.cell?_alloc_lt _ _ _ hlt1).trans d3⟩)
    (first
      | (go_at_call 37; refine (clone_bytes _ _ _ _ hs' hl).mono ?_; rintro e w1 ⟨v, rfl, hown, hb1⟩
         obtain ⟨A1, k1, rfl, _, _, _⟩ := Sl.row hown
         have d0 := (hb1.cell (p := ⟨b, 0, none⟩) hlt).trans c0
         have d1 := (hb1.cell (p := ⟨b, 1, none⟩) hlt).trans c1
         have d2 := (hb1.cell (p := ⟨b, 2, none⟩) hlt).trans c2
         have d3 := (hb1.cell (p := ⟨b, 3, none⟩) hlt).trans c3
         have hlt1 : b < w1.heap.size := Nat.lt_of_lt_of_le hlt hb1.size))
  go_wp2
  go_ret
  have hB1 : Below w.heap.size w w1 := (Below.refl _ _).drew.trans hb1
  obtain ⟨g1, hgB, hc1⟩ := cell_boxed (c := c) hown hn
  exact ⟨_, g1, rfl, hc1, hB1.size, hgB, hB1.alloc hB1.size _⟩
end Go.Proofs.YtmfdpjijpbgjbaaDoor
