/- The document's store: six bytes as a number; Open. -/
import Derived.Test.YtmfdpjijpbgjbaaDoorStoreTear
import Derived.Test.YtmfdpjijpbgjbaaDoorCellRef
import Derived.Test.YtmfdpjijpbgjbaaDoorRegions2
namespace Go.Proofs.YtmfdpjijpbgjbaaDoor
open Go.RowKit
set_option linter.unusedSimpArgs false

def SixRelR (w : World) (ys : List Int) (v i : Value) (wr : World) : Prop := ∃ k : Nat, k ≤ 6 ∧ i = .int .i64 k ∧ v = .int .i64 (numK ys 0 k) ∧ wr = w
attribute [irreducible] SixRelR
def GivesInt (w : World) (n : Int) (e : Ending) (w' : World) : Prop := e = .returned (.int .i64 n) ∧ w' = w
set_option maxHeartbeats 1600000 in
theorem refSix_any (A : Option Addr) (c : Nat) (ys : List Int) (w : World) (hs : Sl w A (ys.map (Value.int .u8))) (hl : ys.length = 6) (hb : IsB ys) :
    Calls Tryd.prog 41 #[.slice A 6 c] w (GivesInt w (six ys 0)) := by
  go_enter Tryd.func41, Tryd.ntmps41
  go_wp2_with fail
  go_loopw [3, 4] (fun v i wr => SixRelR w ys v i wr) (fun _ i _ => 6 - (intOf i).toNat)
  case atStart => unfold SixRelR; exact ⟨0, by omega, rfl, rfl, rfl⟩
  case round =>
    unfold SixRelR at hrel
    obtain ⟨k, hk, rfl, rfl, rfl⟩ := hrel
    by_cases hlt : k < 6
    · obtain ⟨b0, o0, rfl, hbw, hcx⟩ := hs.at (by rw [List.length_map]; omega)
      have hcc : wr.cell? ⟨b0, o0 + k, none⟩ = some (.int .u8 (ys[k]?.getD 0)) := by
        rw [hcx k (by rw [List.length_map]; omega)]
        simp [List.getElem?_eq_getElem (show k < ys.length by omega)]
      have hst := num_step hb 0 (show k ≤ 5 by omega)
      rw [Nat.zero_add] at hst
      have HS := hid hst
      have hlt' : (k : Int) < 6 := by omega
      generalize ys[k]?.getD 0 = x at *
      clear hcx hst
      go_wp2_with fail
      go_roundw
      case rel => unfold SixRelR; exact ⟨k + 1, by omega, by go_num, by rw [HS.out], rfl⟩
      case measure => simp [intOf]; omega
    · obtain rfl : k = 6 := by omega
      go_wp2_with fail
      go_ret
      exact ⟨rfl, rfl⟩
abbrev RStIs (w : World) (s b : Nat) (a : (Int × Int) × Int) : Prop := Blk w s [.pointer (some ⟨b, 0, none⟩), .int .i64 a.1.1, .int .i64 a.1.2, .int .i64 a.2] 64
def ROpenRel (w : World) (s b : Nat) (bs : List Int) (i : Value) (wr : World) : Prop := ∃ k : Nat, k ≤ 2 ∧ i = .int .i64 k ∧ RStIs wr s b (lookK bs k) ∧ Below w.heap.size w wr
attribute [irreducible] ROpenRel
def GivesRSt (w : World) (b : Nat) (a : (Int × Int) × Int) (e : Ending) (w' : World) : Prop := ∃ s, e = .returned (.tuple #[.pointer (some ⟨s, 0, none⟩), .int .i64 0]) ∧ RStIs w' s b a ∧ w.heap.size ≤ s ∧ Below w.heap.size w w'
theorem sl_part {w : World} {g : Nat} {cur : List Value} {E : TypeId} {bs : List Int} (hg : Blk w g cur E) (hcur : cur.take bs.length = bs.map (Value.int .u8)) (p n : Nat) (h : p + n ≤ bs.length) :
    Sl w (some ⟨g, p, none⟩) (((bs.drop p).take n).map (Value.int .u8)) := .inr ⟨g, p, rfl, hg.lt, fun k hk => by
  rw [List.length_map, List.length_take, List.length_drop] at hk
  rw [hg.cell, take_get hcur (by omega)]
  simp [List.getElem?_take, List.getElem?_drop, List.getD_eq_getElem?_getD, show k < n by omega, List.getElem?_eq_getElem (show p + k < bs.length by omega)]⟩
theorem part_b {bs : List Int} (h : IsB bs) (p n : Nat) : IsB ((bs.drop p).take n) := fun x hx => h x (List.mem_of_mem_drop (List.mem_of_mem_take hx))
theorem six_part {bs : List Int} (p : Nat) : six ((bs.drop p).take 6) 0 = six bs p := by
  refine six_congr fun i hi => ?_
  simp [List.getD_eq_getElem?_getD, List.getElem?_take, List.getElem?_drop, hi]
set_option maxRecDepth 100000 in
set_option maxHeartbeats 4000000 in
theorem refOpen_any {b g : Nat} {c : Cl} (w : World) (hc : RefAt w b g c) (hok : c.ok) (hd : c.down = false) (hp : 26 ≤ c.bs.length) (hl : c.bs.length ≤ 4096) :
    Calls Tryd.prog 29 #[.pointer (some ⟨b, 0, none⟩)] w (GivesRSt w b (openR c.bs)) := by
  obtain ⟨hne, cap, cur, hb, hg, hcap, hcl, hcm, hcur⟩ := hc
  have HB : Hid (IsB c.bs) := hok.2.2
  have hp' : ¬ (c.bs.length : Int) < 26 := by omega
  have c0 : w.cell? ⟨b, 0, none⟩ = some (.slice (some ⟨g, 0, none⟩) c.bs.length cap) := hb.cell 0
  have c3 : w.cell? ⟨b, 3, none⟩ = some (.bool c.down) := hb.cell 3
  rw [hd] at c3
  have hbl := hb.lt
  go_enter Tryd.func29, Tryd.ntmps29
  go_wp2_with fail
  have hs1 := Blk.new w [.pointer (some ⟨b, 0, none⟩), .int .i64 0, .int .i64 0, .int .i64 (-1)] 64
  have hb1 : Below w.heap.size w (w.alloc (.cells #[.pointer (some ⟨b, 0, none⟩), .int .i64 0, .int .i64 0, .int .i64 (-1)] 64)) := (Below.refl _ _).alloc (Nat.le_refl _) _
  have HS : Hid (RStIs (w.alloc (.cells #[.pointer (some ⟨b, 0, none⟩), .int .i64 0, .int .i64 0, .int .i64 (-1)] 64)) w.heap.size b (lookK c.bs 0) ∧ Below w.heap.size w (w.alloc (.cells #[.pointer (some ⟨b, 0, none⟩), .int .i64 0, .int .i64 0, .int .i64 (-1)] 64))) := ⟨hs1, hb1⟩
  clear hs1 hb1
  go_loopw [5] (fun i wr => ROpenRel w w.heap.size b c.bs i wr) (fun i _ => 2 - (intOf i).toNat)
  case atStart => unfold ROpenRel; exact ⟨0, by omega, rfl, HS.out.1, HS.out.2⟩
  case round =>
    unfold ROpenRel at hrel
    obtain ⟨k, hk, rfl, hS, hB⟩ := hrel
    by_cases hlt : k < 2
    · have HN : Hid (lookK c.bs (k + 1) = look (lookK c.bs k) k (slotOf c.bs k)) := rfl
      have hao := lookK_ok HB.out k
      obtain ⟨⟨⟨x, y⟩, z⟩, ha⟩ : ∃ a, lookK c.bs k = a := ⟨_, rfl⟩
      rw [ha] at hS hao HN
      clear ha
      have c0r : wr.cell? ⟨b, 0, none⟩ = some (.slice (some ⟨g, 0, none⟩) c.bs.length cap) := (hB.cell (p := ⟨b, 0, none⟩) hbl).trans c0
      have hk1 : 13 * (k : Int) + 13 ≤ cap := by omega
      have hk2 : (0 : Int) ≤ 13 * (k : Int) := by omega
      have hlt' : (k : Int) < 2 := by omega
      go_wp2_with fail
      have hcc : 13 * k + 13 ≤ cur.length := by omega
      have q1 : ¬ cur.length - 13 * k = 1 := by omega
      have q7 : ¬ cur.length - 13 * k = 7 := by omega
      have e7 : (7 : Int) ≤ ((cur.length - 13 * k : Nat) : Int) := by omega
      have e13 : (13 : Int) ≤ ((cur.length - 13 * k : Nat) : Int) := by omega
      have hx1 : ∀ w' cc, Below wr.heap.size wr w' → Calls Tryd.prog 41 #[.slice (some ⟨g, 13 * k + 1, none⟩) 6 cc] w' (GivesInt w' (six c.bs (13 * k + 1))) := fun w' cc h => by
        have hsx := refSix_any (some ⟨g, 13 * k + 1, none⟩) cc ((c.bs.drop (13 * k + 1)).take 6) w' (sl_part ((Eff.of_below (S := fun _ => False) (hB.trans (h.mono hB.size))).blk hg (fun h => h)) hcur _ _ (by omega)) (by rw [List.length_take, List.length_drop]; omega) (part_b HB.out _ _)
        rw [six_part] at hsx
        exact hsx
      have hx7 : ∀ w' cc, Below wr.heap.size wr w' → Calls Tryd.prog 41 #[.slice (some ⟨g, 13 * k + 7, none⟩) 6 cc] w' (GivesInt w' (six c.bs (13 * k + 7))) := fun w' cc h => by
        have hsx := refSix_any (some ⟨g, 13 * k + 7, none⟩) cc ((c.bs.drop (13 * k + 7)).take 6) w' (sl_part ((Eff.of_below (S := fun _ => False) (hB.trans (h.mono hB.size))).blk hg (fun h => h)) hcur _ _ (by omega)) (by rw [List.length_take, List.length_drop]; omega) (part_b HB.out _ _)
        rw [six_part] at hsx
        exact hsx
      have hmk : wr.cell? ⟨g, 13 * k, none⟩ = some (.int .u8 (c.bs.getD (13 * k) 0)) := (hB.cell (p := ⟨g, 13 * k, none⟩) hg.lt).trans ((hg.cell _).trans (take_get hcur (by omega)))
      have hR1 := numK_small HB.out (13 * k + 1) (k := 6) (by omega)
      have hR7 := numK_small HB.out (13 * k + 7) (k := 6) (by omega)
      have HSO : Hid (slotOf c.bs k = if c.bs.getD (13 * k) 0 = 1 then some (six c.bs (13 * k + 1), six c.bs (13 * k + 7)) else none) := rfl
      have hR1 : 0 ≤ six c.bs (13 * k + 1) ∧ six c.bs (13 * k + 1) < 281474976710656 := hR1
      have hR7 : 0 ≤ six c.bs (13 * k + 7) ∧ six c.bs (13 * k + 7) < 281474976710656 := hR7
      generalize six c.bs (13 * k + 1) = rx at *
      generalize six c.bs (13 * k + 7) = ry at *
      generalize c.bs.getD (13 * k) 0 = mk at *
      have HC := hid (And.intro hcc hcap)
      have hbA : Below wr.heap.size wr (_root_.Go.World.drew wr) := (Below.refl _ _).drew
      have hbB : Below wr.heap.size wr ((_root_.Go.World.drew wr).alloc (.cells #[.int .i64 0, .int .i64 0] 61)) := hbA.alloc (Nat.le_refl _) _
      have hbZ : Below wr.heap.size wr ((_root_.Go.World.drew wr).alloc (.cells #[.int .i64 rx, .int .i64 ry] 61)) := hbA.alloc (Nat.le_refl _) _
      have hZ : Blk ((_root_.Go.World.drew wr).alloc (.cells #[.int .i64 rx, .int .i64 ry] 61)) (_root_.Go.World.drew wr).heap.size [.int .i64 rx, .int .i64 ry] 61 := Blk.new _ _ _
      clear hcc c0 c3 hb hg hcl
      go_cut [7] (fun v wx => v = .pointer (some ⟨wr.heap.size, 0, none⟩) ∧ Below wr.heap.size wr wx ∧ Blk wx wr.heap.size [.int .i64 rx, .int .i64 ry] 61)
      case first =>
        refine wp_region_held_drew (S := fun w' => True) (by kernel_rfl) ?_ (fun hHeld => ?_)
        · (try dsimp only); (try trivial)
        refine held_take 0 ?_ rfl (by kernel_rfl) (by kernel_rfl) (by kernel_rfl) (fun _ _ _ h => h) (by rfl) ?_ hHeld ?_
        rotate_left
        · (intro w hSw; (try dsimp only at hSw); go_simp; try with_reducible rfl)
        try simp only [Act.put, List.setIfInBounds_toArray, List.set_cons_zero, List.set_cons_succ]
        refine held_take 1 ?_ rfl (by kernel_rfl) (by kernel_rfl) (by kernel_rfl) (fun _ _ _ h => h) (by rfl) ?_ hHeld ?_
        rotate_left
        · (intro w hSw; (try dsimp only at hSw); go_simp; try with_reducible rfl)
        try simp only [Act.put, List.setIfInBounds_toArray, List.set_cons_zero, List.set_cons_succ]
        refine held_take 3 ?_ rfl (by kernel_rfl) (by kernel_rfl) (by kernel_rfl) (fun _ _ _ h => h) (by rfl) ?_ hHeld ?_
        rotate_left
        · (intro w hSw; (try dsimp only at hSw); go_simp; try with_reducible rfl)
        try simp only [Act.put, List.setIfInBounds_toArray, List.set_cons_zero, List.set_cons_succ]
        refine held_take 4 ?_ rfl (by kernel_rfl) (by kernel_rfl) (by kernel_rfl) (fun _ _ _ h => h) (by rfl) ?_ hHeld ?_
        rotate_left
        · (intro w hSw; (try dsimp only at hSw); go_simp; try with_reducible rfl)
        try simp only [Act.put, List.setIfInBounds_toArray, List.set_cons_zero, List.set_cons_succ]
        refine held_two 2 7 rfl rfl (by kernel_rfl) (by rfl) (by rfl) (fun K hK => ?_) (fun K hK => ?_)
        · go_simp
          refine (hx1 _ _ (by first | exact hbA | exact hbB)).mono ?_
          rintro e w' ⟨rfl, rfl⟩
          refine hK.out _ _ ?_ (fun hHeld2 => ?_)
          · (try dsimp only); (try trivial)
          clear hK K hHeld
          have hHeld := hHeld2
          clear hHeld2
          try simp only [Act.put, List.setIfInBounds_toArray, List.set_cons_zero, List.set_cons_succ]
          refine held_two 5 7 rfl rfl (by kernel_rfl) (by rfl) (by rfl) (fun K hK => ?_) (fun K hK => ?_)
          · go_simp
            refine (hx7 _ _ (by first | exact hbA | exact hbB)).mono ?_
            rintro e w' ⟨rfl, rfl⟩
            refine hK.out _ _ ?_ (fun hHeld2 => ?_)
            · (try dsimp only); (try trivial)
            clear hK K hHeld
            have hHeld := hHeld2
            clear hHeld2
            try simp only [Act.put, List.setIfInBounds_toArray, List.set_cons_zero, List.set_cons_succ]
            refine held_take 6 ?_ rfl (by kernel_rfl) (by kernel_rfl) (by kernel_rfl) (fun _ _ _ h => h) (by rfl) ?_ hHeld ?_
            rotate_left
            · (intro w hSw; (try dsimp only at hSw); go_simp; try with_reducible rfl)
            try simp only [Act.put, List.setIfInBounds_toArray, List.set_cons_zero, List.set_cons_succ]
            refine held_one 7 rfl (by kernel_rfl) (by rfl) (fun K hK => ?_)
            go_simp
            have h00 := hbA
            refine hK.out _ _ ?_ (fun hHeld2 => ?_)
            · (try dsimp only); (try trivial)
            clear hK K hHeld
            have hHeld := hHeld2
            clear hHeld2
            try simp only [Act.put, List.setIfInBounds_toArray, List.set_cons_zero, List.set_cons_succ]
            refine held_one 8 rfl (by kernel_rfl) (by rfl) (fun K hK => ?_)
            go_simp
            have h01 := hbA
            refine hK.out _ _ ?_ (fun hHeld2 => ?_)
            · (try dsimp only); (try trivial)
            clear hK K hHeld
            have hHeld := hHeld2
            clear hHeld2
            try simp only [Act.put, List.setIfInBounds_toArray, List.set_cons_zero, List.set_cons_succ]
            refine wpAnyH_done (by kernel_rfl) ?_ _
            clear hHeld
            go_wp2_with fail
            go_meet
            exact ⟨rfl, hbZ, hZ⟩
          · go_simp
            have h00 := hbA
            refine hK.out _ _ ?_ (fun hHeld2 => ?_)
            · (try dsimp only); (try trivial)
            clear hK K hHeld
            have hHeld := hHeld2
            clear hHeld2
            try simp only [Act.put, List.setIfInBounds_toArray, List.set_cons_zero, List.set_cons_succ]
            refine held_one 5 rfl (by kernel_rfl) (by rfl) (fun K hK => ?_)
            go_simp
            refine (hx7 _ _ (by first | exact hbA | exact hbB)).mono ?_
            rintro e w' ⟨rfl, rfl⟩
            refine hK.out _ _ ?_ (fun hHeld2 => ?_)
            · (try dsimp only); (try trivial)
            clear hK K hHeld
            have hHeld := hHeld2
            clear hHeld2
            try simp only [Act.put, List.setIfInBounds_toArray, List.set_cons_zero, List.set_cons_succ]
            refine held_take 6 ?_ rfl (by kernel_rfl) (by kernel_rfl) (by kernel_rfl) (fun _ _ _ h => h) (by rfl) ?_ hHeld ?_
            rotate_left
            · (intro w hSw; (try dsimp only at hSw); go_simp; try with_reducible rfl)
            try simp only [Act.put, List.setIfInBounds_toArray, List.set_cons_zero, List.set_cons_succ]
            refine held_one 8 rfl (by kernel_rfl) (by rfl) (fun K hK => ?_)
            go_simp
            have h01 := hbA
            refine hK.out _ _ ?_ (fun hHeld2 => ?_)
            · (try dsimp only); (try trivial)
            clear hK K hHeld
            have hHeld := hHeld2
            clear hHeld2
            try simp only [Act.put, List.setIfInBounds_toArray, List.set_cons_zero, List.set_cons_succ]
            refine wpAnyH_done (by kernel_rfl) ?_ _
            clear hHeld
            go_wp2_with fail
            go_meet
            exact ⟨rfl, hbZ, hZ⟩
        · go_simp
          have h00 := hbA
          refine hK.out _ _ ?_ (fun hHeld2 => ?_)
          · (try dsimp only); (try trivial)
          clear hK K hHeld
          have hHeld := hHeld2
          clear hHeld2
          try simp only [Act.put, List.setIfInBounds_toArray, List.set_cons_zero, List.set_cons_succ]
          refine held_one 2 rfl (by kernel_rfl) (by rfl) (fun K hK => ?_)
          go_simp
          refine (hx1 _ _ (by first | exact hbA | exact hbB)).mono ?_
          rintro e w' ⟨rfl, rfl⟩
          refine hK.out _ _ ?_ (fun hHeld2 => ?_)
          · (try dsimp only); (try trivial)
          clear hK K hHeld
          have hHeld := hHeld2
          clear hHeld2
          try simp only [Act.put, List.setIfInBounds_toArray, List.set_cons_zero, List.set_cons_succ]
          refine held_one 5 rfl (by kernel_rfl) (by rfl) (fun K hK => ?_)
          go_simp
          refine (hx7 _ _ (by first | exact hbA | exact hbB)).mono ?_
          rintro e w' ⟨rfl, rfl⟩
          refine hK.out _ _ ?_ (fun hHeld2 => ?_)
          · (try dsimp only); (try trivial)
          clear hK K hHeld
          have hHeld := hHeld2
          clear hHeld2
          try simp only [Act.put, List.setIfInBounds_toArray, List.set_cons_zero, List.set_cons_succ]
          refine held_take 6 ?_ rfl (by kernel_rfl) (by kernel_rfl) (by kernel_rfl) (fun _ _ _ h => h) (by rfl) ?_ hHeld ?_
          rotate_left
          · (intro w hSw; (try dsimp only at hSw); go_simp; try with_reducible rfl)
          try simp only [Act.put, List.setIfInBounds_toArray, List.set_cons_zero, List.set_cons_succ]
          refine held_one 8 rfl (by kernel_rfl) (by rfl) (fun K hK => ?_)
          go_simp
          have h01 := hbA
          refine hK.out _ _ ?_ (fun hHeld2 => ?_)
          · (try dsimp only); (try trivial)
          clear hK K hHeld
          have hHeld := hHeld2
          clear hHeld2
          try simp only [Act.put, List.setIfInBounds_toArray, List.set_cons_zero, List.set_cons_succ]
          refine wpAnyH_done (by kernel_rfl) ?_ _
          clear hHeld
          go_wp2_with fail
          go_meet
          exact ⟨rfl, hbZ, hZ⟩
      case rest =>
      obtain ⟨rfl, hbx, hT⟩ := hcut
      have hBx := hB.trans (hbx.mono hB.size)
      have hSx := (Eff.of_below (S := fun _ => False) hbx).blk hS (fun h => h)
      have m0 : wc.cell? ⟨g, 13 * k, none⟩ = some (.int .u8 mk) := (hbx.cell (p := ⟨g, 13 * k, none⟩) (World.block_lt_of_cell? wr _ hmk)).trans hmk
      have t0 : wc.cell? ⟨wr.heap.size, 0, none⟩ = some (.int .i64 rx) := hT.cell 0
      have t1 : wc.cell? ⟨wr.heap.size, 1, none⟩ = some (.int .i64 ry) := hT.cell 1
      have s1 : wc.cell? ⟨w.heap.size, 1, none⟩ = some (.int .i64 x) := hSx.cell 1
      have s2 : wc.cell? ⟨w.heap.size, 2, none⟩ = some (.int .i64 y) := hSx.cell 2
      have s3 : wc.cell? ⟨w.heap.size, 3, none⟩ = some (.int .i64 z) := hSx.cell 3
      have hf : ∀ o, wc.frozen? ⟨w.heap.size, o, none⟩ = false := hSx.frozen
      have hne2 : wr.heap.size ≠ w.heap.size := by have := hS.lt; omega
      obtain ⟨x0, x1, y0, y1⟩ := hao
      simp only at x0 x1 y0 y1
      have hsum1 : IntKind.i64.wrap (rx + ry) = rx + ry := by rw [IntKind.wrap_i64]; omega
      have hsum2 : IntKind.i64.wrap (x + y) = x + y := by rw [IntKind.wrap_i64]; omega
      have HW := hid (And.intro hBx (And.intro hSx hT))
      clear hbx hS hB hBx hSx hT hbA hbB hbZ hZ hx1 hx7 hmk
      generalize wr.heap.size = tx at *
      by_cases hm1 : mk = 1
      · have hso := HSO.out
        rw [if_pos hm1] at hso
        rw [hso] at HN
        subst hm1
        clear hso
        by_cases hz : z < 0
        · have hl : look ((x, y), z) k (some (rx, ry)) = ((rx, ry), (k : Int)) := if_pos (.inl hz)
          rw [hl] at HN
          clear hl
          go_wp2_with fail
          go_quiet (fail)
          go_wp2_with fail
          have hb20 := below_drewN HW.out.1 nq
          have hS20 := (Eff.of_below (S := fun _ => False) (below_drewN (Below.refl wc.heap.size wc) nq)).blk HW.out.2.1 (fun h => h)
          have hS21 := ((hS20.set 3 (.int .i64 k)).set 1 (.int .i64 rx)).set 2 (.int .i64 ry)
          have hb21 := ((hb20.setCell (p := ⟨w.heap.size, 3, none⟩) (Nat.le_refl _) (.int .i64 k)).setCell (p := ⟨w.heap.size, 1, none⟩) (Nat.le_refl _) (.int .i64 rx)).setCell (p := ⟨w.heap.size, 2, none⟩) (Nat.le_refl _) (.int .i64 ry)
          go_roundw
          case rel => unfold ROpenRel; exact ⟨k + 1, by omega, by go_num, by rw [HN.out]; exact hS21, hb21⟩
          case measure => simp [intOf]; omega
        · by_cases hgt : x + y < rx + ry
          · have hl : look ((x, y), z) k (some (rx, ry)) = ((rx, ry), (k : Int)) := if_pos (.inr hgt)
            rw [hl] at HN
            clear hl
            go_wp2_with fail
            go_quiet (fail)
            go_wp2_with fail
            have hb20 := below_drewN HW.out.1 nq
            have hS20 := (Eff.of_below (S := fun _ => False) (below_drewN (Below.refl wc.heap.size wc) nq)).blk HW.out.2.1 (fun h => h)
            have hS21 := ((hS20.set 3 (.int .i64 k)).set 1 (.int .i64 rx)).set 2 (.int .i64 ry)
            have hb21 := ((hb20.setCell (p := ⟨w.heap.size, 3, none⟩) (Nat.le_refl _) (.int .i64 k)).setCell (p := ⟨w.heap.size, 1, none⟩) (Nat.le_refl _) (.int .i64 rx)).setCell (p := ⟨w.heap.size, 2, none⟩) (Nat.le_refl _) (.int .i64 ry)
            go_roundw
            case rel => unfold ROpenRel; exact ⟨k + 1, by omega, by go_num, by rw [HN.out]; exact hS21, hb21⟩
            case measure => simp [intOf]; omega
          · have hl : look ((x, y), z) k (some (rx, ry)) = ((x, y), z) := if_neg (fun h => h.elim hz hgt)
            rw [hl] at HN
            clear hl
            go_wp2_with fail
            go_quiet (fail)
            go_wp2_with fail
            have hb20 := below_drewN HW.out.1 nq
            have hS20 := (Eff.of_below (S := fun _ => False) (below_drewN (Below.refl wc.heap.size wc) nq)).blk HW.out.2.1 (fun h => h)
            go_roundw
            case rel => unfold ROpenRel; exact ⟨k + 1, by omega, by go_num, by rw [HN.out]; exact hS20, hb20⟩
            case measure => simp [intOf]; omega
      · have hso := HSO.out
        rw [if_neg hm1] at hso
        rw [hso] at HN
        have hmb : (mk == 1) = false := by simpa using hm1
        clear hso hm1
        have hl : look ((x, y), z) k none = ((x, y), z) := rfl
        rw [hl] at HN
        clear hl
        go_wp2_with fail
        go_quiet (fail)
        go_wp2_with fail
        have hb20 := below_drewN HW.out.1 nq
        have hS20 := (Eff.of_below (S := fun _ => False) (below_drewN (Below.refl wc.heap.size wc) nq)).blk HW.out.2.1 (fun h => h)
        go_roundw
        case rel => unfold ROpenRel; exact ⟨k + 1, by omega, by go_num, by rw [HN.out]; exact hS20, hb20⟩
        case measure => simp [intOf]; omega
    · obtain rfl : k = 2 := by omega
      go_wp2_with fail
      go_ret2
      exact ⟨w.heap.size, rfl, hS, Nat.le_refl _, hB⟩
end Go.Proofs.YtmfdpjijpbgjbaaDoor
