/- StoreRaw: the walk. -/
import Derived.Test.YtmfdpjijpbgjbaaDoorStoreArm
import Derived.Deep.CutBlock
namespace Go.Proofs.YtmfdpjijpbgjbaaDoor
open Go.RowKit
set_option linter.unusedSimpArgs false

/-- A memory with power and no fuse, new, of 26 bytes. -/
def Raw (W wr : World) (b g n : Nat) (c : Cl) : Prop := CellIs wr b g c ∧ c.ok ∧ c.bs.length = 26 ∧ c.down = false ∧ c.fuse = 0 ∧ 0 ≤ c.writes ∧ c.writes ≤ (n : Int) ∧ Below W.heap.size W wr
def RawRel (W : World) (b g len : Nat) (i : Value) (wr : World) : Prop := ∃ k : Nat, k ≤ len ∧ k ≤ 26 ∧ i = .int .i64 k ∧ ∃ c, Raw W wr b g k c
attribute [irreducible] RawRel
theorem raw_put {ad : Int → Addr} {W wr : World} {b g n : Nat} {c : Cl} (hE : Errs4 ad W) (hbW : W.heap.size ≤ b) (hgW : W.heap.size ≤ g) (h : Raw W wr b g n c) (hn : n ≤ 100) (i : Nat) (hi : i < 26) (x : Int) (hx : 0 ≤ x ∧ x ≤ 255) :
    Calls Tryd.prog 16 #[.pointer (some ⟨b, 0, none⟩), .int .i64 i, .int .u8 x] wr fun e w' => e = .returned .nilIface ∧ Raw W w' b g (n + 1) ⟨c.bs.set i x, 0, false, c.writes + 1⟩ := by
  obtain ⟨hc, hok, hl, hd, hf, hw0, hw1, hB⟩ := h
  have his : c.is (i : Int) = true := by simp only [Cl.is, Bool.and_eq_true, decide_eq_true_eq]; omega
  have he : c.putE (i : Int) = 0 := by
    have hg : c.gone = c := by unfold Cl.gone; rw [if_neg]; intro h; have := h.2; omega
    unfold Cl.putE
    rw [hg, hd, his]
    rfl
  have hp := put_up hd hf his x
  rw [Int.toNat_natCast] at hp
  refine (put_any (i : Int) x wr (hE.below hB) hc hok ⟨hw0, by omega⟩).mono ?_
  rintro e w' ⟨rfl, hc2, hx2⟩
  rw [he, errV_zero]
  have hok2 := Cl.put_ok hok (i : Int) x hx
  rw [hp] at hc2 hok2
  exact ⟨rfl, hc2, hok2, by simpa using hl, rfl, rfl, by simp only; omega, by simp only; omega, at2_below hB hx2 hbW hgW⟩
theorem slot_none {bs : List Int} {k : Nat} (h : bs.getD (13 * k) 0 = 0) : slotOf bs k = none := by
  rw [slotOf, h]
  rfl
theorem open_none {bs : List Int} (h0 : bs.getD 0 0 = 0) (h1 : bs.getD 13 0 = 0) : openR bs = ((0, 0), -1) := by
  rw [openR, slot_none h0, slot_none h1]
  rfl
theorem next_less {r : Int × Int} (h : RecOk r) (hl : r.2 ≠ 281474976710655) : badE r (r.1, r.2 + 1) = 0 := by
  obtain ⟨a, b, c, d⟩ := h
  obtain ⟨x, y⟩ := r
  simp only at a b c d hl
  unfold badE
  rw [if_neg (by simp only; omega), if_neg (by simp only [Prod.mk.injEq]; omega)]
theorem bytes_of {xs : List Int} (h : ∀ n ∈ xs, (Lit.int .u8 n).wf = true) : ∀ x ∈ xs, 0 ≤ x ∧ x ≤ 255 := fun n hn => by
  have h := h n hn
  have e1 : IntKind.u8.min = 0 := by decide
  have e2 : IntKind.u8.max = 255 := by decide
  simp [Lit.wf, e1, e2] at h
  omega
set_option maxRecDepth 100000 in
set_option maxHeartbeats 4000000 in
theorem storeRaw_walk {ad : Int → Addr} (A : Option Addr) (c0 : Nat) (raw : List Int) (a1 : Int) (w : World) (hs : Sl w A (raw.map (Value.int .u8))) (hb : ∀ x ∈ raw, 0 ≤ x ∧ x ≤ 255) (hE : Errs4 ad w) :
    Calls Tryd.prog 10 #[.slice A raw.length c0, .int .i64 a1] w (SaysTrue w) := by
  by_cases h40 : raw.length ≤ 40
  · have h40' : ¬ 40 < (raw.length : Int) := by omega
    obtain ⟨m, hm, hm1⟩ := mod_nat a1 4 (by omega)
    have hn : ∀ w, _ := fun w => number_any a1 4 (by omega) (by omega) w
    rw [hm] at hn
    clear hm
    go_enter Tryd.func10, Tryd.ntmps10
    go_wp2_with fail
    refine (first3_any w hE).mono ?_
    rintro e w1 ⟨rfl, hB1⟩
    go_wp2_with fail
    refine (new_yes 26 _ (by omega) (by omega)).mono ?_
    rintro e w2 ⟨b, g, rfl, hc2, hbB, hgB, hb2⟩
    have hB2 := hB1.trans (hb2.mono hB1.size)
    have hbW := Nat.le_trans hB1.size hbB
    have hgW := Nat.le_trans hB1.size hgB
    have hR2 : Raw w w2 b g 0 (Cl.new 26) := ⟨hc2, Cl.new_ok 26, by simp [Cl.new], rfl, rfl, by simp [Cl.new], by simp [Cl.new], hB2⟩
    clear hc2 hb2 hB1 hB2 hbB hgB
    go_upto_block 0 with (fail)
    go_cut [8] (fun v wx => ∃ n c, n ≤ 26 ∧ Raw w wx b g n c)
    case first =>
      go_wp2_with fail
      go_loopw [8] (fun i wr => RawRel w b g raw.length i wr) (fun i _ => 26 - (intOf i).toNat)
      case atStart => unfold RawRel; exact ⟨0, by omega, by omega, rfl, _, hR2⟩
      case round =>
        clear hR2
        unfold RawRel at hrel
        obtain ⟨k, hk, hk26, rfl, c, hR⟩ := hrel
        by_cases hlt : k < raw.length ∧ k < 26
        · obtain ⟨hl1, hl2⟩ := hlt
          obtain ⟨b0, o0, rfl, hbw, hcx⟩ := hs.at (by rw [List.length_map]; omega)
          have hcc : wr.cell? ⟨b0, o0 + k, none⟩ = some (.int .u8 raw[k]) := (hR.2.2.2.2.2.2.2.cell (p := ⟨b0, o0 + k, none⟩) hbw).trans ((hcx k (by rw [List.length_map]; omega)).trans (by simp))
          have hpu := raw_put hE hbW hgW hR (by omega) k hl2 raw[k] (hb _ (List.getElem_mem hl1))
          have hl1' : (k : Int) < raw.length := by omega
          have hl2' : (k : Int) < 26 := by omega
          generalize raw[k] = x at *
          clear hcx
          go_wp2_with fail
          refine hpu.mono ?_
          rintro e w3 ⟨rfl, hR3⟩
          clear hpu hR
          go_wp2_with fail
          go_roundw
          case rel => unfold RawRel; exact ⟨k + 1, by omega, by omega, by go_num, _, hR3⟩
          case measure => simp [intOf]; omega
        · have hex : ¬ (k : Int) < raw.length ∨ ((k : Int) < raw.length ∧ ¬ (k : Int) < 26) := by omega
          have HR := hid hR
          clear hlt hR
          rcases hex with h1 | ⟨h1, h2⟩
          · go_wp2_with fail
            go_meet
            exact ⟨k, c, hk26, HR.out⟩
          · go_wp2_with fail
            go_meet
            exact ⟨k, c, hk26, HR.out⟩
    case rest =>
      obtain ⟨n, c, hn26, hR⟩ := hcut
      clear hR2
      go_wp2_with fail
      refine (hn _).mono ?_
      rintro e w' ⟨rfl, rfl⟩
      clear hn
      have hm4 : m < 4 := by omega
      have hp1 : Calls Tryd.prog 16 #[.pointer (some ⟨b, 0, none⟩), .int .i64 0, .int .u8 ((m : Int) % 2)] _ _ := raw_put hE hbW hgW hR (by omega) 0 (by omega) ((m : Int) % 2) (by omega)
      go_wp2_with fail
      refine hp1.mono ?_
      rintro e w3 ⟨rfl, hR3⟩
      have hp2 : Calls Tryd.prog 16 #[.pointer (some ⟨b, 0, none⟩), .int .i64 13, .int .u8 ((m : Int) / 2)] _ _ := raw_put hE hbW hgW hR3 (by omega) 13 (by omega) ((m : Int) / 2) (by omega)
      clear hp1 hR
      go_wp2_with fail
      refine hp2.mono ?_
      rintro e w4 ⟨rfl, hR4⟩
      clear hp2 hR3
      have hg0 : ((c.bs.set 0 ((m : Int) % 2)).set 13 ((m : Int) / 2)).length = 26 := hR4.2.2.1
      have hm0 : m = 0 → openR ((c.bs.set 0 ((m : Int) % 2)).set 13 ((m : Int) / 2)) = ((0, 0), -1) := fun h0 => by
        subst h0
        have hl : c.bs.length = 26 := by simpa using hg0
        refine open_none ?_ ?_
        · rw [getD_set _ _ _ _ (by rw [List.length_set]; omega), if_neg (by omega), getD_set _ _ _ _ (by omega), if_pos rfl]; rfl
        · rw [getD_set _ _ _ _ (by rw [List.length_set]; omega), if_pos rfl]; rfl
      obtain ⟨c2, hc2⟩ : ∃ c2 : Cl, c2 = ⟨(c.bs.set 0 ((m : Int) % 2)).set 13 ((m : Int) / 2), 0, false, c.writes + 1 + 1⟩ := ⟨_, rfl⟩
      have hR4 : Raw w w4 b g (n + 1 + 1) c2 := by rw [hc2]; exact hR4
      have hm0 : m = 0 → openR c2.bs = ((0, 0), -1) := by rw [hc2]; exact hm0
      clear hg0 hc2
      obtain ⟨hc4, hok, hl, hd, hf, hw0, hw1, hB4⟩ := hR4
      have hop := open_any w4 (hE.below hB4) hc4 hok hd (by omega) (by omega)
      go_wp2_with fail
      refine hop.mono ?_
      rintro e w5 ⟨s, rfl, hs5, hlt5, hb5⟩
      have hlc := hc4.lt
      have hsz := hB4.size
      have hS5 : St w w5 b g s c2 (openR c2.bs) := ⟨hc4.below hb5, hs5, hok, by omega, hd, by omega, openR_rng _, hB4.trans (hb5.mono hB4.size), ⟨hbW, hgW, by omega⟩, by omega, by omega⟩
      obtain ⟨a, ha⟩ : ∃ a, openR c2.bs = a := ⟨_, rfl⟩
      have hrok : RecOk a.1 := ha ▸ openR_ok hok.2.2
      have hw2 : c2.writes ≤ 28 := by omega
      rw [ha] at hS5 hm0
      clear hop hs5 hb5 hc4 hok hd hw1 hB4 hlt5 hsz
      have hrr := record_any w5 hS5.store
      go_wp2_with fail
      refine hrr.mono ?_
      rintro e w6 ⟨rfl, hb6⟩
      have hS6 := hS5.on hb6
      obtain ⟨⟨x, y⟩, z⟩ := a
      have hx0 : 0 ≤ x := hrok.1
      have hx1 : x < 281474976710656 := hrok.2.1
      have hy0 : 0 ≤ y := hrok.2.2.1
      have hy1 : y < 281474976710656 := hrok.2.2.2
      clear hrr hS5 hb6
      go_upto_region 20 with (fail)
      have hb7 : Below w6.heap.size w6 (w6.alloc (.cells #[.int .i64 x, .int .i64 y] 59)) := (Below.refl _ _).alloc (Nat.le_refl _) _
      have hX7 : Blk (w6.alloc (.cells #[.int .i64 x, .int .i64 y] 59)) w6.heap.size [.int .i64 x, .int .i64 y] 59 := Blk.new w6 _ _
      have hS7 := hS6.on hb7
      have hltx := hS6.lt
      generalize w6.alloc (.cells #[.int .i64 x, .int .i64 y] 59) = w7 at *
      generalize w6.heap.size = tx at *
      have x0 : w7.cell? ⟨tx, 0, none⟩ = some (.int .i64 x) := hX7.cell 0
      have x1 : w7.cell? ⟨tx, 1, none⟩ = some (.int .i64 y) := hX7.cell 1
      go_cut [103] (fun v wx => v = .bool false ∧ Below w7.heap.size w7 wx)
      case first =>
        by_cases h0 : m = 0
        · have he := hm0 h0
          simp only [Prod.mk.injEq] at he
          obtain ⟨⟨rfl, rfl⟩, rfl⟩ := he
          subst h0
          have hsm := sameR_any (0, 0) (0, 0) w7
          rw [show decide (((0, 0) : Int × Int) = (0, 0)) = true from by simp] at hsm
          clear hm0
          go_wp2_with fail
          refine hsm.mono ?_
          rintro e w8 ⟨rfl, hb8⟩
          have y0 : w8.cell? ⟨tx, 0, none⟩ = some (.int .i64 0) := (hb8.cell (p := ⟨tx, 0, none⟩) hX7.lt).trans x0
          have y1 : w8.cell? ⟨tx, 1, none⟩ = some (.int .i64 0) := (hb8.cell (p := ⟨tx, 1, none⟩) hX7.lt).trans x1
          clear hsm
          go_wp2_with fail
          go_meet
          exact ⟨rfl, hb8⟩
        · have hmb : ((m : Int) == 0) = false := by simp; omega
          clear h0 hm0
          go_wp2_with fail
          go_meet
          exact ⟨by rw [decide_eq_false (show ¬ x < 0 by omega), decide_eq_false (show ¬ y < 0 by omega), decide_eq_false (show ¬ 281474976710656 ≤ x by omega), decide_eq_false (show ¬ 281474976710656 ≤ y by omega)]; rfl, Below.refl _ _⟩
      case rest =>
      obtain ⟨rfl, hb8⟩ := hcut
      have hS8 := hS7.on hb8
      have hX8 := (Eff.of_below (S := fun _ => False) hb8).blk hX7 (fun h => h)
      have x0 : wc.cell? ⟨tx, 0, none⟩ = some (.int .i64 x) := hX8.cell 0
      have x1 : wc.cell? ⟨tx, 1, none⟩ = some (.int .i64 y) := hX8.cell 1
      have htx : tx < wc.heap.size := hX8.lt
      clear hS6 hS7 hb7 hb8 hX7 hm0
      by_cases hlast : y = 281474976710655
      · have hyb : (y == 281474976710655) = true := by simpa using hlast
        clear hlast
        go_wp2_with fail
        go_ret
        exact ⟨rfl, hS8.below⟩
      have hnx := next_less hrok hlast
      have hyb : (y == 281474976710655) = false := by simpa using hlast
      clear hlast
      go_upto_region 25 with (fail)
      have hb9 : Below wc.heap.size wc (wc.alloc (.cells #[.int .i64 x, .int .i64 (y + 1)] 59)) := (Below.refl _ _).alloc (Nat.le_refl _) _
      have hN9 : Blk (wc.alloc (.cells #[.int .i64 x, .int .i64 (y + 1)] 59)) wc.heap.size [.int .i64 x, .int .i64 (y + 1)] 59 := Blk.new wc _ _
      have hX9 := (Eff.of_below (S := fun _ => False) hb9).blk hX8 (fun h => h)
      have hS9 := hS8.on hb9
      generalize wc.alloc (.cells #[.int .i64 x, .int .i64 (y + 1)] 59) = w9 at *
      clear hb9 hX8 hS8 x0 x1
      generalize wc.heap.size = tn at *
      have har := st_arm hS9 14 (by omega)
      go_wp2_with fail
      refine har.mono ?_
      rintro e w10 ⟨rfl, hS10, he10⟩
      have hX10 := Eff.of3 hS9 he10 hX9 (by omega)
      have hN10 := Eff.of3 hS9 he10 hN9 (by omega)
      have n0 : w10.cell? ⟨tn, 0, none⟩ = some (.int .i64 x) := hN10.cell 0
      have n1 : w10.cell? ⟨tn, 1, none⟩ = some (.int .i64 (y + 1)) := hN10.cell 1
      have hbl := st_blown hE hS10 ⟨by simp only [Cl.arm]; omega, by simp only [Cl.arm]; omega⟩ (x, y + 1) hnx (by simp only [Cl.arm]; omega)
      rw [errV_ne ad (by decide)] at hbl
      clear har hS9 hX9 hN9 he10
      go_wp2_with fail
      refine hbl.mono ?_
      rintro e w11 ⟨rfl, hS11, he11⟩
      have hX11 := Eff.of3 hS10 he11 hX10 (by omega)
      have hN11 := Eff.of3 hS10 he11 hN10 (by omega)
      have hbk := sd_back hS11
      have hto : openR ((c2.arm 14).torn z (x, y + 1)).back.bs = ((x, y), z) := torn_open (c := c2.arm 14) (a := ((x, y), z)) (by simp only [Cl.arm]; omega) ha (x, y + 1) (by simp only [Cl.arm]; omega)
      have hww : ((c2.arm 14).torn z (x, y + 1)).back.writes ≤ 41 := by simp only [Cl.arm, Cl.torn, Cl.back]; omega
      have hwf : ((c2.arm 14).torn z (x, y + 1)).back.fuse = 0 := rfl
      clear hbl hS10 hX10 hN10 he11 n0 n1
      generalize (c2.arm 14).torn z (x, y + 1) = c3 at *
      go_wp2_with fail
      refine hbk.mono ?_
      rintro e w12 ⟨rfl, hS12, he12⟩
      have hX12 := he12.blk hX11 (fun q => by rcases q with q | q | q <;> omega)
      have hN12 := he12.blk hN11 (fun q => by rcases q with q | q | q <;> omega)
      clear hbk hS11 hX11 hN11 he12
      generalize c3.back = c4 at *
      have hop := st_open hE hS12
      have htn12 : tn < w12.heap.size := hN12.lt
      go_wp2_with fail
      refine hop.mono ?_
      rintro e w13 ⟨t, rfl, hT13, _, hb13, hlt13⟩
      rw [hto] at hT13
      have hX13 := (Eff.of_below (S := fun _ => False) hb13).blk hX12 (fun h => h)
      have hN13 := (Eff.of_below (S := fun _ => False) hb13).blk hN12 (fun h => h)
      clear hop hS12 hX12 hN12 hb13
      go_wp2_with fail
      have hT14 : St w (_root_.Go.World.drew w13) b g t c4 ((x, y), z) := hT13.on ((Below.refl _ _).drew)
      have y0 : (_root_.Go.World.drew w13).cell? ⟨tx, 0, none⟩ = some (.int .i64 x) := hX13.cell 0
      have y1 : (_root_.Go.World.drew w13).cell? ⟨tx, 1, none⟩ = some (.int .i64 y) := hX13.cell 1
      have ht7 : tx < (_root_.Go.World.drew w13).heap.size := hX13.lt
      have hN14 : Blk (_root_.Go.World.drew w13) tn [.int .i64 x, .int .i64 (y + 1)] 59 := hN13
      clear hT13 hX13 hN13
      refine wp_region_held_drew (S := fun w' => w'.cell? ⟨tx, 0, none⟩ = some (.int .i64 x) ∧ w'.cell? ⟨tx, 1, none⟩ = some (.int .i64 y)) (by kernel_rfl) ?_ (fun hHeld => ?_)
      · (try dsimp only); (first | exact ⟨y0, y1⟩ | exact ⟨z0, z1⟩ | exact ⟨(hb16.cell (p := ⟨tx, 0, none⟩) ht8).trans z0, (hb16.cell (p := ⟨tx, 1, none⟩) ht8).trans z1⟩)
      refine held_take 0 ?_ rfl (by kernel_rfl) (by kernel_rfl) (by kernel_rfl) (fun _ _ _ h => h) (by rfl) ?_ hHeld ?_
      rotate_left
      · (intro w hSw; (try dsimp only at hSw); go_simp; try with_reducible rfl)
      try simp only [Act.put, List.setIfInBounds_toArray, List.set_cons_zero, List.set_cons_succ]
      refine held_take 1 ?_ rfl (by kernel_rfl) (by kernel_rfl) (by kernel_rfl) (fun _ _ _ h => h) (by rfl) ?_ hHeld ?_
      rotate_left
      · (intro w hSw; (try dsimp only at hSw); go_simp; try with_reducible rfl)
      try simp only [Act.put, List.setIfInBounds_toArray, List.set_cons_zero, List.set_cons_succ]
      refine held_take 2 ?_ rfl (by kernel_rfl) (by kernel_rfl) (by kernel_rfl) (fun _ _ _ h => h) (by rfl) ?_ hHeld ?_
      rotate_left
      · (intro w hSw; (try dsimp only at hSw); go_simp; try with_reducible rfl)
      try simp only [Act.put, List.setIfInBounds_toArray, List.set_cons_zero, List.set_cons_succ]
      refine held_take 3 ?_ rfl (by kernel_rfl) (by kernel_rfl) (by kernel_rfl) (fun _ _ _ h => h) (by rfl) ?_ hHeld ?_
      rotate_left
      · (intro w hSw; (try dsimp only at hSw); go_simp; try with_reducible rfl)
      try simp only [Act.put, List.setIfInBounds_toArray, List.set_cons_zero, List.set_cons_succ]
      refine held_take 4 ?_ rfl (by kernel_rfl) (by kernel_rfl) (by kernel_rfl) (fun _ _ _ h => h) (by rfl) ?_ hHeld ?_
      rotate_left
      · (intro w hSw; (try dsimp only at hSw); go_simp; try with_reducible rfl)
      try simp only [Act.put, List.setIfInBounds_toArray, List.set_cons_zero, List.set_cons_succ]
      refine held_take 5 ?_ rfl (by kernel_rfl) (by kernel_rfl) (by kernel_rfl) (fun _ _ _ h => h) (by rfl) ?_ hHeld ?_
      rotate_left
      · (intro w hSw; (try dsimp only at hSw); go_simp; try with_reducible rfl)
      try simp only [Act.put, List.setIfInBounds_toArray, List.set_cons_zero, List.set_cons_succ]
      refine held_take 6 ?_ rfl (by kernel_rfl) (by kernel_rfl) (by kernel_rfl) (fun _ _ _ h => h) (by rfl) ?_ hHeld ?_
      rotate_left
      · (intro w hSw; (try dsimp only at hSw); go_simp; try with_reducible rfl)
      try simp only [Act.put, List.setIfInBounds_toArray, List.set_cons_zero, List.set_cons_succ]
      refine held_take 7 ?_ rfl (by kernel_rfl) (by kernel_rfl) (by kernel_rfl) (fun _ _ _ h => h) (by rfl) ?_ hHeld ?_
      rotate_left
      · (intro w hSw; (try dsimp only at hSw); go_simp; try with_reducible rfl)
      try simp only [Act.put, List.setIfInBounds_toArray, List.set_cons_zero, List.set_cons_succ]
      refine held_take 9 ?_ rfl (by kernel_rfl) (by kernel_rfl) (by kernel_rfl) (fun _ _ _ h => h) (by rfl) ?_ hHeld ?_
      rotate_left
      · (intro w hSw; (try dsimp only at hSw); go_simp; try with_reducible rfl)
      try simp only [Act.put, List.setIfInBounds_toArray, List.set_cons_zero, List.set_cons_succ]
      refine held_one 8 rfl (by kernel_rfl) (by rfl) (fun K hK => ?_)
      go_simp
      refine (record_any _ hT14.store).mono ?_
      rintro e w15 ⟨rfl, hb15⟩
      have hT15 := hT14.on hb15
      have hN15 := (Eff.of_below (S := fun _ => False) hb15).blk hN14 (fun h => h)
      have z0 := (hb15.cell (p := ⟨tx, 0, none⟩) ht7).trans y0
      have z1 := (hb15.cell (p := ⟨tx, 1, none⟩) ht7).trans y1
      have ht8 : tx < w15.heap.size := Nat.lt_of_lt_of_le ht7 hb15.size
      have hsm := sameR_any (x, y) (x, y) w15
      rw [show decide ((x, y) = (x, y)) = true from by simp] at hsm
      refine hK.out _ _ ?_ (fun hHeld2 => ?_)
      · (try dsimp only); (first | exact ⟨y0, y1⟩ | exact ⟨z0, z1⟩ | exact ⟨(hb16.cell (p := ⟨tx, 0, none⟩) ht8).trans z0, (hb16.cell (p := ⟨tx, 1, none⟩) ht8).trans z1⟩)
      clear hK K hHeld
      have hHeld := hHeld2
      clear hHeld2
      try simp only [Act.put, List.setIfInBounds_toArray, List.set_cons_zero, List.set_cons_succ]
      refine held_one 10 rfl (by kernel_rfl) (by rfl) (fun K hK => ?_)
      go_simp
      refine hsm.mono ?_
      rintro e w16 ⟨rfl, hb16⟩
      have hT16 := hT15.on hb16
      have hN16 := (Eff.of_below (S := fun _ => False) hb16).blk hN15 (fun h => h)
      clear hT15 hN15 hsm
      refine hK.out _ _ ?_ (fun hHeld2 => ?_)
      · (try dsimp only); (first | exact ⟨y0, y1⟩ | exact ⟨z0, z1⟩ | exact ⟨(hb16.cell (p := ⟨tx, 0, none⟩) ht8).trans z0, (hb16.cell (p := ⟨tx, 1, none⟩) ht8).trans z1⟩)
      clear hK K hHeld
      have hHeld := hHeld2
      clear hHeld2
      try simp only [Act.put, List.setIfInBounds_toArray, List.set_cons_zero, List.set_cons_succ]
      refine held_take 11 ?_ rfl (by kernel_rfl) (by kernel_rfl) (by kernel_rfl) (fun _ _ _ h => h) (by rfl) ?_ hHeld ?_
      rotate_left
      · (intro w hSw; (try dsimp only at hSw); go_simp; try with_reducible rfl)
      try simp only [Act.put, List.setIfInBounds_toArray, List.set_cons_zero, List.set_cons_succ]
      refine held_take 12 ?_ rfl (by kernel_rfl) (by kernel_rfl) (by kernel_rfl) (fun _ _ _ h => h) (by rfl) ?_ hHeld ?_
      rotate_left
      · (intro w hSw; (try dsimp only at hSw); go_simp; try with_reducible rfl)
      try simp only [Act.put, List.setIfInBounds_toArray, List.set_cons_zero, List.set_cons_succ]
      refine wpAnyH_done (by kernel_rfl) ?_ _
      clear hHeld
      have n0 : w16.cell? ⟨tn, 0, none⟩ = some (.int .i64 x) := hN16.cell 0
      have n1 : w16.cell? ⟨tn, 1, none⟩ = some (.int .i64 (y + 1)) := hN16.cell 1
      have hv := st_save hE hT16 hwf (x, y + 1) hnx (by omega)
      have hko := kept_open hT16.len.1 hto hnx
      clear y0 y1 ht7 hN14 hT14
      go_wp2_with fail
      refine hv.mono ?_
      rintro e w17 ⟨rfl, hT17, he17⟩
      rw [errV_zero]
      have hN17 := Eff.of3 hT16 he17 hN16 (by omega)
      have hop := st_open hE hT17
      clear hv hN16 hT16 he17 n0 n1
      go_wp2_with fail
      refine hop.mono ?_
      rintro e w18 ⟨u, rfl, hU18, _, hb18, _⟩
      rw [hko] at hU18
      have hN18 := (Eff.of_below (S := fun _ => False) hb18).blk hN17 (fun h => h)
      clear hop hN17 hT17 hb18
      go_wp2_with fail
      have hU19 : St w (_root_.Go.World.drew w18) b g u _ _ := hU18.on ((Below.refl _ _).drew)
      have y0 : (_root_.Go.World.drew w18).cell? ⟨tn, 0, none⟩ = some (.int .i64 x) := hN18.cell 0
      have y1 : (_root_.Go.World.drew w18).cell? ⟨tn, 1, none⟩ = some (.int .i64 (y + 1)) := hN18.cell 1
      have ht7 : tn < (_root_.Go.World.drew w18).heap.size := hN18.lt
      refine wp_region_held_drew (S := fun w' => w'.cell? ⟨tn, 0, none⟩ = some (.int .i64 x) ∧ w'.cell? ⟨tn, 1, none⟩ = some (.int .i64 (y + 1))) (by kernel_rfl) ?_ (fun hHeld => ?_)
      · (try dsimp only); (first | exact ⟨y0, y1⟩ | exact ⟨z0, z1⟩ | exact ⟨(hb21.cell (p := ⟨tn, 0, none⟩) ht8).trans z0, (hb21.cell (p := ⟨tn, 1, none⟩) ht8).trans z1⟩)
      refine held_take 0 ?_ rfl (by kernel_rfl) (by kernel_rfl) (by kernel_rfl) (fun _ _ _ h => h) (by rfl) ?_ hHeld ?_
      rotate_left
      · (intro w hSw; (try dsimp only at hSw); go_simp; try with_reducible rfl)
      try simp only [Act.put, List.setIfInBounds_toArray, List.set_cons_zero, List.set_cons_succ]
      refine held_take 1 ?_ rfl (by kernel_rfl) (by kernel_rfl) (by kernel_rfl) (fun _ _ _ h => h) (by rfl) ?_ hHeld ?_
      rotate_left
      · (intro w hSw; (try dsimp only at hSw); go_simp; try with_reducible rfl)
      try simp only [Act.put, List.setIfInBounds_toArray, List.set_cons_zero, List.set_cons_succ]
      refine held_take 2 ?_ rfl (by kernel_rfl) (by kernel_rfl) (by kernel_rfl) (fun _ _ _ h => h) (by rfl) ?_ hHeld ?_
      rotate_left
      · (intro w hSw; (try dsimp only at hSw); go_simp; try with_reducible rfl)
      try simp only [Act.put, List.setIfInBounds_toArray, List.set_cons_zero, List.set_cons_succ]
      refine held_take 3 ?_ rfl (by kernel_rfl) (by kernel_rfl) (by kernel_rfl) (fun _ _ _ h => h) (by rfl) ?_ hHeld ?_
      rotate_left
      · (intro w hSw; (try dsimp only at hSw); go_simp; try with_reducible rfl)
      try simp only [Act.put, List.setIfInBounds_toArray, List.set_cons_zero, List.set_cons_succ]
      refine held_take 4 ?_ rfl (by kernel_rfl) (by kernel_rfl) (by kernel_rfl) (fun _ _ _ h => h) (by rfl) ?_ hHeld ?_
      rotate_left
      · (intro w hSw; (try dsimp only at hSw); go_simp; try with_reducible rfl)
      try simp only [Act.put, List.setIfInBounds_toArray, List.set_cons_zero, List.set_cons_succ]
      refine held_take 5 ?_ rfl (by kernel_rfl) (by kernel_rfl) (by kernel_rfl) (fun _ _ _ h => h) (by rfl) ?_ hHeld ?_
      rotate_left
      · (intro w hSw; (try dsimp only at hSw); go_simp; try with_reducible rfl)
      try simp only [Act.put, List.setIfInBounds_toArray, List.set_cons_zero, List.set_cons_succ]
      refine held_take 6 ?_ rfl (by kernel_rfl) (by kernel_rfl) (by kernel_rfl) (fun _ _ _ h => h) (by rfl) ?_ hHeld ?_
      rotate_left
      · (intro w hSw; (try dsimp only at hSw); go_simp; try with_reducible rfl)
      try simp only [Act.put, List.setIfInBounds_toArray, List.set_cons_zero, List.set_cons_succ]
      refine held_take 7 ?_ rfl (by kernel_rfl) (by kernel_rfl) (by kernel_rfl) (fun _ _ _ h => h) (by rfl) ?_ hHeld ?_
      rotate_left
      · (intro w hSw; (try dsimp only at hSw); go_simp; try with_reducible rfl)
      try simp only [Act.put, List.setIfInBounds_toArray, List.set_cons_zero, List.set_cons_succ]
      refine held_take 8 ?_ rfl (by kernel_rfl) (by kernel_rfl) (by kernel_rfl) (fun _ _ _ h => h) (by rfl) ?_ hHeld ?_
      rotate_left
      · (intro w hSw; (try dsimp only at hSw); go_simp; try with_reducible rfl)
      try simp only [Act.put, List.setIfInBounds_toArray, List.set_cons_zero, List.set_cons_succ]
      refine held_take 9 ?_ rfl (by kernel_rfl) (by kernel_rfl) (by kernel_rfl) (fun _ _ _ h => h) (by rfl) ?_ hHeld ?_
      rotate_left
      · (intro w hSw; (try dsimp only at hSw); go_simp; try with_reducible rfl)
      try simp only [Act.put, List.setIfInBounds_toArray, List.set_cons_zero, List.set_cons_succ]
      refine held_take 10 ?_ rfl (by kernel_rfl) (by kernel_rfl) (by kernel_rfl) (fun _ _ _ h => h) (by rfl) ?_ hHeld ?_
      rotate_left
      · (intro w hSw; (try dsimp only at hSw); go_simp; try with_reducible rfl)
      try simp only [Act.put, List.setIfInBounds_toArray, List.set_cons_zero, List.set_cons_succ]
      refine held_take 12 ?_ rfl (by kernel_rfl) (by kernel_rfl) (by kernel_rfl) (fun _ _ _ h => h) (by rfl) ?_ hHeld ?_
      rotate_left
      · (intro w hSw; (try dsimp only at hSw); go_simp; try with_reducible rfl)
      try simp only [Act.put, List.setIfInBounds_toArray, List.set_cons_zero, List.set_cons_succ]
      refine held_one 11 rfl (by kernel_rfl) (by rfl) (fun K hK => ?_)
      go_simp
      refine (record_any _ hU19.store).mono ?_
      rintro e w20 ⟨rfl, hb20⟩
      have hU20 := hU19.on hb20
      have z0 := (hb20.cell (p := ⟨tn, 0, none⟩) ht7).trans y0
      have z1 := (hb20.cell (p := ⟨tn, 1, none⟩) ht7).trans y1
      have ht8 : tn < w20.heap.size := Nat.lt_of_lt_of_le ht7 hb20.size
      have hsm := sameR_any (x, y + 1) (x, y + 1) w20
      rw [show decide ((x, y + 1) = (x, y + 1)) = true from by simp] at hsm
      refine hK.out _ _ ?_ (fun hHeld2 => ?_)
      · (try dsimp only); (first | exact ⟨y0, y1⟩ | exact ⟨z0, z1⟩ | exact ⟨(hb21.cell (p := ⟨tn, 0, none⟩) ht8).trans z0, (hb21.cell (p := ⟨tn, 1, none⟩) ht8).trans z1⟩)
      clear hK K hHeld
      have hHeld := hHeld2
      clear hHeld2
      try simp only [Act.put, List.setIfInBounds_toArray, List.set_cons_zero, List.set_cons_succ]
      refine held_one 13 rfl (by kernel_rfl) (by rfl) (fun K hK => ?_)
      go_simp
      refine hsm.mono ?_
      rintro e w21 ⟨rfl, hb21⟩
      have hB21 := hU20.below.trans (hb21.mono hU20.below.size)
      refine hK.out _ _ ?_ (fun hHeld2 => ?_)
      · (try dsimp only); (first | exact ⟨y0, y1⟩ | exact ⟨z0, z1⟩ | exact ⟨(hb21.cell (p := ⟨tn, 0, none⟩) ht8).trans z0, (hb21.cell (p := ⟨tn, 1, none⟩) ht8).trans z1⟩)
      clear hK K hHeld
      have hHeld := hHeld2
      clear hHeld2
      try simp only [Act.put, List.setIfInBounds_toArray, List.set_cons_zero, List.set_cons_succ]
      refine held_take 14 ?_ rfl (by kernel_rfl) (by kernel_rfl) (by kernel_rfl) (fun _ _ _ h => h) (by rfl) ?_ hHeld ?_
      rotate_left
      · (intro w hSw; (try dsimp only at hSw); go_simp; try with_reducible rfl)
      try simp only [Act.put, List.setIfInBounds_toArray, List.set_cons_zero, List.set_cons_succ]
      refine held_take 15 ?_ rfl (by kernel_rfl) (by kernel_rfl) (by kernel_rfl) (fun _ _ _ h => h) (by rfl) ?_ hHeld ?_
      rotate_left
      · (intro w hSw; (try dsimp only at hSw); go_simp; try with_reducible rfl)
      try simp only [Act.put, List.setIfInBounds_toArray, List.set_cons_zero, List.set_cons_succ]
      refine wpAnyH_done (by kernel_rfl) ?_ _
      clear hHeld
      go_wp2_with fail
      go_ret
      exact ⟨rfl, hB21⟩
  · have h40' : 40 < (raw.length : Int) := by omega
    go_enter Tryd.func10, Tryd.ntmps10
    go_wp2_with fail
    refine (first3_any w hE).mono ?_
    rintro e w1 ⟨rfl, hB1⟩
    go_wp2_with fail
    go_ret
    exact ⟨rfl, hB1⟩
end Go.Proofs.YtmfdpjijpbgjbaaDoor
