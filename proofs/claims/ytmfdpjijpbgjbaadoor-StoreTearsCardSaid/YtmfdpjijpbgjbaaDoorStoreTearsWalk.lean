/- StoreTears: the walk. -/
import Derived.Test.YtmfdpjijpbgjbaaDoorStoreTear
namespace Go.Proofs.YtmfdpjijpbgjbaaDoor
open Go.RowKit
set_option linter.unusedSimpArgs false

set_option maxRecDepth 100000 in
set_option maxHeartbeats 1000000 in
theorem storeTears_walk {ad : Int → Addr} (A0 A1 : Option Addr) (c0 c1 : Nat) (l arms : List Int) (w : World) (hs0 : Sl w A0 (l.map (Value.int .i64))) (hs1 : Sl w A1 (arms.map (Value.int .i64))) (hE : Errs ad w) :
    Calls Tryd.prog 11 #[.slice A0 l.length c0, .slice A1 arms.length c1] w (SaysTrue w) := by
  by_cases h30 : l.length ≤ 30
  · by_cases h30b : arms.length ≤ 30
    · have h30' : ¬ 30 < (l.length : Int) := by omega
      have h30b' : ¬ 30 < (arms.length : Int) := by omega
      go_enter Tryd.func11, Tryd.ntmps11
      go_wp2_with fail
      refine (first3_any w hE.four).mono ?_
      rintro e w1 ⟨rfl, hB1⟩
      go_wp2_with fail
      refine (opened_any w1 hE.four hB1).mono ?_
      rintro e w2 ⟨s, b, g, rfl, hS2, _⟩
      clear hB1
      have hb3 : Below w2.heap.size w2 (w2.alloc (.cells #[.int .i64 0, .int .i64 0] 59)) := (Below.refl _ _).alloc (Nat.le_refl _) _
      have hS3 := hS2.on hb3
      have hT3 : Blk (w2.alloc (.cells #[.int .i64 0, .int .i64 0] 59)) w2.heap.size [.int .i64 0, .int .i64 0] 59 := Blk.new w2 _ _
      have hlt2 := hS2.lt
      have hWt := hS2.below.size
      have H3 := hid (And.intro hS3 hT3)
      clear hS2 hb3 hS3 hT3
      go_wp2_with fail
      generalize w2.heap.size = tn at *
      go_loopw [6, 9] (fun s i wr => TearRel w b g tn l.length s i wr) (fun _ i _ => l.length - (intOf i).toNat)
      case atStart => unfold TearRel; exact ⟨0, by omega, rfl, s, Cl.new 26, 0, 0, -1, rfl, H3.out.1, rfl, open_new 26, by simp [Cl.new], ⟨by omega, by omega⟩, ⟨by omega, by omega⟩, H3.out.2, by omega, by omega, by omega, hWt⟩
      case round =>
        clear hlt2 H3
        unfold TearRel at hrel
        obtain ⟨k, hk, rfl, sb, c, x, y, z, rfl, hS, hf, hop, hwr, hx, hy, hT, htb, htg, hts, htW⟩ := hrel
        by_cases hlt : k < l.length
        · obtain ⟨b0, o0, rfl, hbw, hcx⟩ := hs0.at (by rw [List.length_map]; omega)
          have hcc : wr.cell? ⟨b0, o0 + k, none⟩ = some (.int .i64 l[k]) := (hS.below.cell (p := ⟨b0, o0 + k, none⟩) hbw).trans ((hcx k (by rw [List.length_map]; omega)).trans (by simp))
          generalize l[k] = v at *
          have hlt' : (k : Int) < l.length := by omega
          have hxb : x ≤ 100 := by omega
          have hyb : y ≤ 100 := by omega
          have HK := hid (And.intro hop (And.intro hwr (And.intro hx hy)))
          clear hcx hop hwr
          obtain ⟨hx0, hx2⟩ := hx
          obtain ⟨hy0, hy2⟩ := hy
          go_wp2_with fail
          have hS1 : St w (_root_.Go.World.drew wr) b g sb c ((x, y), z) := hS.on ((Below.refl _ _).drew)
          have t0 : (_root_.Go.World.drew wr).cell? ⟨tn, 0, none⟩ = some (.int .i64 x) := hT.cell 0
          have t1 : (_root_.Go.World.drew wr).cell? ⟨tn, 1, none⟩ = some (.int .i64 y) := hT.cell 1
          have hT1 : Blk (_root_.Go.World.drew wr) tn [.int .i64 x, .int .i64 y] 59 := hT
          have hcc1 : (_root_.Go.World.drew wr).cell? ⟨b0, o0 + k, none⟩ = some (.int .i64 v) := hcc
          have hbw1 : b0 < (_root_.Go.World.drew wr).heap.size := Nat.lt_of_lt_of_le hbw hS.below.size
          have htl : tn < (_root_.Go.World.drew wr).heap.size := hT.lt
          have hltS := hS.lt
          have hWx := hS.below.size
          clear hS hT hcc
          obtain ⟨p, hp, hp1⟩ := mod_nat v 3 (by omega)
          obtain ⟨q, hq, hq1⟩ := mod_nat (IntKind.i64.wrap (v.tdiv 3)) 3 (by omega)
          have hnp : ∀ w, _ := fun w => number_any v 3 (by omega) (by omega) w
          have hnq : ∀ w, _ := fun w => number_any (IntKind.i64.wrap (v.tdiv 3)) 3 (by omega) (by omega) w
          rw [hp] at hnp
          rw [hq] at hnq
          clear hp hq
          have hbz : Below (_root_.Go.World.drew wr).heap.size (_root_.Go.World.drew wr) ((_root_.Go.World.drew wr).alloc (.cells #[.int .i64 (x + p), .int .i64 (y + q)] 59)) := (Below.refl _ _).alloc (Nat.le_refl _) _
          have hZ : Blk ((_root_.Go.World.drew wr).alloc (.cells #[.int .i64 (x + p), .int .i64 (y + q)] 59)) (_root_.Go.World.drew wr).heap.size [.int .i64 (x + p), .int .i64 (y + q)] 59 := Blk.new _ _ _
          have hw1 : IntKind.i64.wrap (x + p) = x + p := by rw [IntKind.wrap_i64]; omega
          have hw2 : IntKind.i64.wrap (y + q) = y + q := by rw [IntKind.wrap_i64]; omega
          go_cut [10] (fun v wx => v = .pointer (some ⟨wr.heap.size, 0, none⟩) ∧ St w wx b g sb c ((x, y), z) ∧ Blk wx tn [.int .i64 x, .int .i64 y] 59 ∧ Blk wx wr.heap.size [.int .i64 (x + p), .int .i64 (y + q)] 59)
          case first =>
            refine wp_region_held_drew (S := fun w' => w'.cell? ⟨tn, 0, none⟩ = some (.int .i64 x) ∧ w'.cell? ⟨tn, 1, none⟩ = some (.int .i64 y) ∧ w'.cell? ⟨b0, o0 + k, none⟩ = some (.int .i64 v)) (by kernel_rfl) ?_ (fun hHeld => ?_)
            · (try dsimp only); (first | exact ⟨t0, t1, hcc1⟩ | exact ⟨(World.cell?_alloc_lt _ _ _ htl).trans t0, (World.cell?_alloc_lt _ _ _ htl).trans t1, (World.cell?_alloc_lt _ _ _ hbw1).trans hcc1⟩)
            refine held_take 0 ?_ rfl (by kernel_rfl) (by kernel_rfl) (by kernel_rfl) (fun _ _ _ h => h) (by rfl) ?_ hHeld ?_
            rotate_left
            · (intro w hSw; (try dsimp only at hSw); go_simp; try with_reducible rfl)
            try simp only [Act.put, List.setIfInBounds_toArray, List.set_cons_zero, List.set_cons_succ]
            refine held_take 1 ?_ rfl (by kernel_rfl) (by kernel_rfl) (by kernel_rfl) (fun _ _ _ h => h) (by rfl) ?_ hHeld ?_
            rotate_left
            · (intro w hSw; (try dsimp only at hSw); go_simp; try with_reducible rfl)
            try simp only [Act.put, List.setIfInBounds_toArray, List.set_cons_zero, List.set_cons_succ]
            refine held_take 2 ?_ rfl (by kernel_rfl) (by kernel_rfl) (by kernel_rfl) (fun _ _ _ h => h) (by rfl) ?_ hHeld ?_
            rotate_left
            · (intro w hSw; (try dsimp only at hSw); go_simp; try with_reducible rfl)
            try simp only [Act.put, List.setIfInBounds_toArray, List.set_cons_zero, List.set_cons_succ]
            refine held_take 3 ?_ rfl (by kernel_rfl) (by kernel_rfl) (by kernel_rfl) (fun _ _ _ h => h) (by rfl) ?_ hHeld ?_
            rotate_left
            · (intro w hSw; (try dsimp only at hSw); go_simp; try with_reducible rfl)
            try simp only [Act.put, List.setIfInBounds_toArray, List.set_cons_zero, List.set_cons_succ]
            refine held_take 4 ?_ rfl (by kernel_rfl) (by kernel_rfl) (by kernel_rfl) (fun _ _ _ h => h) (by rfl) ?_ hHeld ?_
            rotate_left
            · (intro w hSw; (try dsimp only at hSw); go_simp; try with_reducible rfl)
            try simp only [Act.put, List.setIfInBounds_toArray, List.set_cons_zero, List.set_cons_succ]
            refine held_take 5 ?_ rfl (by kernel_rfl) (by kernel_rfl) (by kernel_rfl) (fun _ _ _ h => h) (by rfl) ?_ hHeld ?_
            rotate_left
            · (intro w hSw; (try dsimp only at hSw); go_simp; try with_reducible rfl)
            try simp only [Act.put, List.setIfInBounds_toArray, List.set_cons_zero, List.set_cons_succ]
            refine held_take 8 ?_ rfl (by kernel_rfl) (by kernel_rfl) (by kernel_rfl) (fun _ _ _ h => h) (by rfl) ?_ hHeld ?_
            rotate_left
            · (intro w hSw; (try dsimp only at hSw); go_simp; try with_reducible rfl)
            try simp only [Act.put, List.setIfInBounds_toArray, List.set_cons_zero, List.set_cons_succ]
            refine held_take 9 ?_ rfl (by kernel_rfl) (by kernel_rfl) (by kernel_rfl) (fun _ _ _ h => h) (by rfl) ?_ hHeld ?_
            rotate_left
            · (intro w hSw; (try dsimp only at hSw); go_simp; try with_reducible rfl)
            try simp only [Act.put, List.setIfInBounds_toArray, List.set_cons_zero, List.set_cons_succ]
            refine held_take 10 ?_ rfl (by kernel_rfl) (by kernel_rfl) (by kernel_rfl) (fun _ _ _ h => h) (by rfl) ?_ hHeld ?_
            rotate_left
            · (intro w hSw; (try dsimp only at hSw); go_simp; try with_reducible rfl)
            try simp only [Act.put, List.setIfInBounds_toArray, List.set_cons_zero, List.set_cons_succ]
            refine held_take 11 ?_ rfl (by kernel_rfl) (by kernel_rfl) (by kernel_rfl) (fun _ _ _ h => h) (by rfl) ?_ hHeld ?_
            rotate_left
            · (intro w hSw; (try dsimp only at hSw); go_simp; try with_reducible rfl)
            try simp only [Act.put, List.setIfInBounds_toArray, List.set_cons_zero, List.set_cons_succ]
            refine held_take 12 ?_ rfl (by kernel_rfl) (by kernel_rfl) (by kernel_rfl) (fun _ _ _ h => h) (by rfl) ?_ hHeld ?_
            rotate_left
            · (intro w hSw; (try dsimp only at hSw); go_simp; try with_reducible rfl)
            try simp only [Act.put, List.setIfInBounds_toArray, List.set_cons_zero, List.set_cons_succ]
            refine held_take 13 ?_ rfl (by kernel_rfl) (by kernel_rfl) (by kernel_rfl) (fun _ _ _ h => h) (by rfl) ?_ hHeld ?_
            rotate_left
            · (intro w hSw; (try dsimp only at hSw); go_simp; try with_reducible rfl)
            try simp only [Act.put, List.setIfInBounds_toArray, List.set_cons_zero, List.set_cons_succ]
            refine held_take 14 ?_ rfl (by kernel_rfl) (by kernel_rfl) (by kernel_rfl) (fun _ _ _ h => h) (by rfl) ?_ hHeld ?_
            rotate_left
            · (intro w hSw; (try dsimp only at hSw); go_simp; try with_reducible rfl)
            try simp only [Act.put, List.setIfInBounds_toArray, List.set_cons_zero, List.set_cons_succ]
            refine held_two 6 18 rfl rfl (by kernel_rfl) (by rfl) (by rfl) (fun K hK => ?_) (fun K hK => ?_)
            · go_simp
              refine (hnp _).mono ?_
              rintro e w' ⟨rfl, rfl⟩
              refine hK.out _ _ ?_ (fun hHeld2 => ?_)
              · (try dsimp only); (first | exact ⟨t0, t1, hcc1⟩ | exact ⟨(World.cell?_alloc_lt _ _ _ htl).trans t0, (World.cell?_alloc_lt _ _ _ htl).trans t1, (World.cell?_alloc_lt _ _ _ hbw1).trans hcc1⟩)
              clear hK K hHeld
              have hHeld := hHeld2
              clear hHeld2
              try simp only [Act.put, List.setIfInBounds_toArray, List.set_cons_zero, List.set_cons_succ]
              refine held_take 7 ?_ rfl (by kernel_rfl) (by kernel_rfl) (by kernel_rfl) (fun _ _ _ h => h) (by rfl) ?_ hHeld ?_
              rotate_left
              · (intro w hSw; (try dsimp only at hSw); go_simp; try with_reducible rfl)
              try simp only [Act.put, List.setIfInBounds_toArray, List.set_cons_zero, List.set_cons_succ]
              refine held_two 15 18 rfl rfl (by kernel_rfl) (by rfl) (by rfl) (fun K hK => ?_) (fun K hK => ?_)
              · go_simp
                refine (hnq _).mono ?_
                rintro e w' ⟨rfl, rfl⟩
                refine hK.out _ _ ?_ (fun hHeld2 => ?_)
                · (try dsimp only); (first | exact ⟨t0, t1, hcc1⟩ | exact ⟨(World.cell?_alloc_lt _ _ _ htl).trans t0, (World.cell?_alloc_lt _ _ _ htl).trans t1, (World.cell?_alloc_lt _ _ _ hbw1).trans hcc1⟩)
                clear hK K hHeld
                have hHeld := hHeld2
                clear hHeld2
                try simp only [Act.put, List.setIfInBounds_toArray, List.set_cons_zero, List.set_cons_succ]
                refine held_take 16 ?_ rfl (by kernel_rfl) (by kernel_rfl) (by kernel_rfl) (fun _ _ _ h => h) (by rfl) ?_ hHeld ?_
                rotate_left
                · (intro w hSw; (try dsimp only at hSw); go_simp; try with_reducible rfl)
                try simp only [Act.put, List.setIfInBounds_toArray, List.set_cons_zero, List.set_cons_succ]
                refine held_take 17 ?_ rfl (by kernel_rfl) (by kernel_rfl) (by kernel_rfl) (fun _ _ _ h => h) (by rfl) ?_ hHeld ?_
                rotate_left
                · (intro w hSw; (try dsimp only at hSw); go_simp; try with_reducible rfl)
                try simp only [Act.put, List.setIfInBounds_toArray, List.set_cons_zero, List.set_cons_succ]
                refine held_one 18 rfl (by kernel_rfl) (by rfl) (fun K hK => ?_)
                go_simp
                have h00 := htl
                refine hK.out _ _ ?_ (fun hHeld2 => ?_)
                · (try dsimp only); (first | exact ⟨t0, t1, hcc1⟩ | exact ⟨(World.cell?_alloc_lt _ _ _ htl).trans t0, (World.cell?_alloc_lt _ _ _ htl).trans t1, (World.cell?_alloc_lt _ _ _ hbw1).trans hcc1⟩)
                clear hK K hHeld
                have hHeld := hHeld2
                clear hHeld2
                try simp only [Act.put, List.setIfInBounds_toArray, List.set_cons_zero, List.set_cons_succ]
                refine held_one 19 rfl (by kernel_rfl) (by rfl) (fun K hK => ?_)
                go_simp
                have h01 := htl
                refine hK.out _ _ ?_ (fun hHeld2 => ?_)
                · (try dsimp only); (first | exact ⟨t0, t1, hcc1⟩ | exact ⟨(World.cell?_alloc_lt _ _ _ htl).trans t0, (World.cell?_alloc_lt _ _ _ htl).trans t1, (World.cell?_alloc_lt _ _ _ hbw1).trans hcc1⟩)
                clear hK K hHeld
                have hHeld := hHeld2
                clear hHeld2
                try simp only [Act.put, List.setIfInBounds_toArray, List.set_cons_zero, List.set_cons_succ]
                refine wpAnyH_done (by kernel_rfl) ?_ _
                clear hHeld
                go_wp2_with fail
                go_meet
                exact ⟨rfl, hS1.on hbz, (Eff.of_below (S := fun _ => False) hbz).blk hT1 (fun h => h), hZ⟩
              · go_simp
                have h00 := htl
                refine hK.out _ _ ?_ (fun hHeld2 => ?_)
                · (try dsimp only); (first | exact ⟨t0, t1, hcc1⟩ | exact ⟨(World.cell?_alloc_lt _ _ _ htl).trans t0, (World.cell?_alloc_lt _ _ _ htl).trans t1, (World.cell?_alloc_lt _ _ _ hbw1).trans hcc1⟩)
                clear hK K hHeld
                have hHeld := hHeld2
                clear hHeld2
                try simp only [Act.put, List.setIfInBounds_toArray, List.set_cons_zero, List.set_cons_succ]
                refine held_one 15 rfl (by kernel_rfl) (by rfl) (fun K hK => ?_)
                go_simp
                refine (hnq _).mono ?_
                rintro e w' ⟨rfl, rfl⟩
                refine hK.out _ _ ?_ (fun hHeld2 => ?_)
                · (try dsimp only); (first | exact ⟨t0, t1, hcc1⟩ | exact ⟨(World.cell?_alloc_lt _ _ _ htl).trans t0, (World.cell?_alloc_lt _ _ _ htl).trans t1, (World.cell?_alloc_lt _ _ _ hbw1).trans hcc1⟩)
                clear hK K hHeld
                have hHeld := hHeld2
                clear hHeld2
                try simp only [Act.put, List.setIfInBounds_toArray, List.set_cons_zero, List.set_cons_succ]
                refine held_take 16 ?_ rfl (by kernel_rfl) (by kernel_rfl) (by kernel_rfl) (fun _ _ _ h => h) (by rfl) ?_ hHeld ?_
                rotate_left
                · (intro w hSw; (try dsimp only at hSw); go_simp; try with_reducible rfl)
                try simp only [Act.put, List.setIfInBounds_toArray, List.set_cons_zero, List.set_cons_succ]
                refine held_take 17 ?_ rfl (by kernel_rfl) (by kernel_rfl) (by kernel_rfl) (fun _ _ _ h => h) (by rfl) ?_ hHeld ?_
                rotate_left
                · (intro w hSw; (try dsimp only at hSw); go_simp; try with_reducible rfl)
                try simp only [Act.put, List.setIfInBounds_toArray, List.set_cons_zero, List.set_cons_succ]
                refine held_one 19 rfl (by kernel_rfl) (by rfl) (fun K hK => ?_)
                go_simp
                have h01 := htl
                refine hK.out _ _ ?_ (fun hHeld2 => ?_)
                · (try dsimp only); (first | exact ⟨t0, t1, hcc1⟩ | exact ⟨(World.cell?_alloc_lt _ _ _ htl).trans t0, (World.cell?_alloc_lt _ _ _ htl).trans t1, (World.cell?_alloc_lt _ _ _ hbw1).trans hcc1⟩)
                clear hK K hHeld
                have hHeld := hHeld2
                clear hHeld2
                try simp only [Act.put, List.setIfInBounds_toArray, List.set_cons_zero, List.set_cons_succ]
                refine wpAnyH_done (by kernel_rfl) ?_ _
                clear hHeld
                go_wp2_with fail
                go_meet
                exact ⟨rfl, hS1.on hbz, (Eff.of_below (S := fun _ => False) hbz).blk hT1 (fun h => h), hZ⟩
            · go_simp
              have h00 := htl
              refine hK.out _ _ ?_ (fun hHeld2 => ?_)
              · (try dsimp only); (first | exact ⟨t0, t1, hcc1⟩ | exact ⟨(World.cell?_alloc_lt _ _ _ htl).trans t0, (World.cell?_alloc_lt _ _ _ htl).trans t1, (World.cell?_alloc_lt _ _ _ hbw1).trans hcc1⟩)
              clear hK K hHeld
              have hHeld := hHeld2
              clear hHeld2
              try simp only [Act.put, List.setIfInBounds_toArray, List.set_cons_zero, List.set_cons_succ]
              refine held_one 6 rfl (by kernel_rfl) (by rfl) (fun K hK => ?_)
              go_simp
              refine (hnp _).mono ?_
              rintro e w' ⟨rfl, rfl⟩
              refine hK.out _ _ ?_ (fun hHeld2 => ?_)
              · (try dsimp only); (first | exact ⟨t0, t1, hcc1⟩ | exact ⟨(World.cell?_alloc_lt _ _ _ htl).trans t0, (World.cell?_alloc_lt _ _ _ htl).trans t1, (World.cell?_alloc_lt _ _ _ hbw1).trans hcc1⟩)
              clear hK K hHeld
              have hHeld := hHeld2
              clear hHeld2
              try simp only [Act.put, List.setIfInBounds_toArray, List.set_cons_zero, List.set_cons_succ]
              refine held_take 7 ?_ rfl (by kernel_rfl) (by kernel_rfl) (by kernel_rfl) (fun _ _ _ h => h) (by rfl) ?_ hHeld ?_
              rotate_left
              · (intro w hSw; (try dsimp only at hSw); go_simp; try with_reducible rfl)
              try simp only [Act.put, List.setIfInBounds_toArray, List.set_cons_zero, List.set_cons_succ]
              refine held_one 15 rfl (by kernel_rfl) (by rfl) (fun K hK => ?_)
              go_simp
              refine (hnq _).mono ?_
              rintro e w' ⟨rfl, rfl⟩
              refine hK.out _ _ ?_ (fun hHeld2 => ?_)
              · (try dsimp only); (first | exact ⟨t0, t1, hcc1⟩ | exact ⟨(World.cell?_alloc_lt _ _ _ htl).trans t0, (World.cell?_alloc_lt _ _ _ htl).trans t1, (World.cell?_alloc_lt _ _ _ hbw1).trans hcc1⟩)
              clear hK K hHeld
              have hHeld := hHeld2
              clear hHeld2
              try simp only [Act.put, List.setIfInBounds_toArray, List.set_cons_zero, List.set_cons_succ]
              refine held_take 16 ?_ rfl (by kernel_rfl) (by kernel_rfl) (by kernel_rfl) (fun _ _ _ h => h) (by rfl) ?_ hHeld ?_
              rotate_left
              · (intro w hSw; (try dsimp only at hSw); go_simp; try with_reducible rfl)
              try simp only [Act.put, List.setIfInBounds_toArray, List.set_cons_zero, List.set_cons_succ]
              refine held_take 17 ?_ rfl (by kernel_rfl) (by kernel_rfl) (by kernel_rfl) (fun _ _ _ h => h) (by rfl) ?_ hHeld ?_
              rotate_left
              · (intro w hSw; (try dsimp only at hSw); go_simp; try with_reducible rfl)
              try simp only [Act.put, List.setIfInBounds_toArray, List.set_cons_zero, List.set_cons_succ]
              refine held_one 19 rfl (by kernel_rfl) (by rfl) (fun K hK => ?_)
              go_simp
              have h01 := htl
              refine hK.out _ _ ?_ (fun hHeld2 => ?_)
              · (try dsimp only); (first | exact ⟨t0, t1, hcc1⟩ | exact ⟨(World.cell?_alloc_lt _ _ _ htl).trans t0, (World.cell?_alloc_lt _ _ _ htl).trans t1, (World.cell?_alloc_lt _ _ _ hbw1).trans hcc1⟩)
              clear hK K hHeld
              have hHeld := hHeld2
              clear hHeld2
              try simp only [Act.put, List.setIfInBounds_toArray, List.set_cons_zero, List.set_cons_succ]
              refine wpAnyH_done (by kernel_rfl) ?_ _
              clear hHeld
              go_wp2_with fail
              go_meet
              exact ⟨rfl, hS1.on hbz, (Eff.of_below (S := fun _ => False) hbz).blk hT1 (fun h => h), hZ⟩
          case rest =>
          obtain ⟨rfl, hS2, hT2, hZ2⟩ := hcut
          have htl : tn < wr.heap.size := htl
          clear hS1 t0 t1 hT1 hcc1 hbw1 hnp hnq hbz hZ hw1 hw2
          have htxl : wr.heap.size < wc.heap.size := hZ2.lt
          generalize wr.heap.size = tx at *
          go_upto_if 61 with (fail)
          go_cut [] (fun wx => ArmRel w b g sb tn tx c ((x, y), z) (x + p, y + q) wx)
          case first =>
            by_cases hka : k < arms.length
            · obtain ⟨b1, o1, rfl, hbw1, hcx⟩ := hs1.at (by rw [List.length_map]; omega)
              have hcc : wc.cell? ⟨b1, o1 + k, none⟩ = some (.int .i64 arms[k]) := (hS2.below.cell (p := ⟨b1, o1 + k, none⟩) hbw1).trans ((hcx k (by rw [List.length_map]; omega)).trans (by simp))
              obtain ⟨f, hf1, hf2⟩ := mod_nat arms[k] 18 (by omega)
              have hnf : ∀ w, _ := fun w => number_any arms[k] 18 (by omega) (by omega) w
              rw [hf1] at hnf
              generalize arms[k] = v2 at *
              have hka' : (k : Int) < arms.length := by omega
              clear hcx hf1
              go_wp2_with fail
              refine (hnf _).mono ?_
              rintro e w' ⟨rfl, rfl⟩
              have har := st_arm hS2 (f : Int) (by omega)
              go_wp2_with fail
              refine har.mono ?_
              rintro e w3 ⟨rfl, hS3, he3⟩
              have hT3 := Eff.of3 hS2 he3 hT2 (by omega)
              have hZ3 := Eff.of3 hS2 he3 hZ2 (by omega)
              clear har hS2
              go_wp2_with fail
              go_meet
              exact ⟨f, by omega, hS3, hT3, hZ3⟩
            · have hka' : ¬ (k : Int) < arms.length := by omega
              have hAR : ArmRel w b g sb tn tx c ((x, y), z) (x + p, y + q) wc := ⟨0, by omega, by rw [show ((0 : Nat) : Int) = 0 from rfl, arm_zero hf]; exact hS2, hT2, hZ2⟩
              clear hS2 hT2 hZ2
              go_wp2_with fail
              go_meet
              exact hAR
          case rest =>
          clear hS2 hT2 hZ2 htxl
          obtain ⟨f, hf17, hS3, hT3, hZ3⟩ := hcut
          have hcf : (c.arm f).fuse = f := by simp only [Cl.arm]; omega
          have hcb : openR (c.arm f).bs = ((x, y), z) := HK.out.1
          have hcw : (c.arm f).writes ≤ 14 * (k : Int) := HK.out.2.1
          have hT3 : Blk wc tn [.int .i64 x, .int .i64 y] 59 := hT3
          have hZ3 : Blk wc tx [.int .i64 (x + p), .int .i64 (y + q)] 59 := hZ3
          generalize c.arm (f : Int) = c3 at *
          have hxy : 0 ≤ x ∧ x ≤ 100 ∧ 0 ≤ y ∧ y ≤ 100 := ⟨hx0, hxb, hy0, hyb⟩
          have hpq : 0 ≤ (p : Int) ∧ (p : Int) ≤ 2 ∧ 0 ≤ (q : Int) ∧ (q : Int) ≤ 2 := by omega
          clear hf
          by_cases hsame : p = 0 ∧ q = 0
          · obtain ⟨rfl, rfl⟩ := hsame
            have hZ3 : Blk wc tx [.int .i64 x, .int .i64 y] 59 := by simpa using hZ3
            have hv := st_bad hE.four hS3 (x, y) (by rw [step_same hxy]; decide)
            rw [step_same hxy] at hv
            have z0 : wc.cell? ⟨tx, 0, none⟩ = some (.int .i64 x) := hZ3.cell 0
            have z1 : wc.cell? ⟨tx, 1, none⟩ = some (.int .i64 y) := hZ3.cell 1
            go_wp2_with fail
            refine hv.mono ?_
            rintro e w4 ⟨rfl, hS4, he4⟩
            have hT4 := Eff.of3 hS3 he4 hT3 (by omega)
            have hZ4 := Eff.of3 hS3 he4 hZ3 (by omega)
            rw [errV_ne ad (by decide)]
            clear hv hS3 hT3 hZ3 z0 z1 he4
            have z0 : w4.cell? ⟨tx, 0, none⟩ = some (.int .i64 x) := hZ4.cell 0
            have z1 : w4.cell? ⟨tx, 1, none⟩ = some (.int .i64 y) := hZ4.cell 1
            have t0 : w4.cell? ⟨tn, 0, none⟩ = some (.int .i64 x) := hT4.cell 0
            have t1 : w4.cell? ⟨tn, 1, none⟩ = some (.int .i64 y) := hT4.cell 1
            have hsm := sameR_any (x, y) (x, y) w4
            rw [show decide ((x, y) = (x, y)) = true from by simp] at hsm
            go_wp2_with fail
            refine hsm.mono ?_
            rintro e w5 ⟨rfl, hb5⟩
            have hS5 := hS4.on hb5
            have hT5 := (Eff.of_below (S := fun _ => False) hb5).blk hT4 (fun h => h)
            clear hsm hS4 hT4 hZ4 hb5 z0 z1 t0 t1
            have har := st_arm hS5 0 (by omega)
            go_wp2_with fail
            refine har.mono ?_
            rintro e w6 ⟨rfl, hS6, he6⟩
            have hT6 := Eff.of3 hS5 he6 hT5 (by omega)
            have his := is_any (k := 108) 108 (hE.below hS6.below) (.inr (IsErr.mk (by omega)))
            rw [errV_ne ad (by decide)] at his
            clear har hS5 hT5 he6
            go_wp2_with fail
            refine his.mono ?_
            rintro e w7 ⟨rfl, hb7⟩
            have hS7 := hS6.on hb7
            have hT7 := (Eff.of_below (S := fun _ => False) hb7).blk hT6 (fun h => h)
            clear his hS6 hT6 hb7
            go_wp2_with fail
            go_roundw
            case rel => unfold TearRel; exact ⟨k + 1, by omega, by go_num, sb, c3.arm 0, x, y, z, rfl, hS7, rfl, hcb, by simp only [Cl.arm]; omega, by omega, by omega, hT7, htb, htg, hts, htW⟩
            case measure => simp [intOf]; omega
          have hbd := step_bad hxy hpq (by omega)
          have hne : decide ((x + (p : Int), y + (q : Int)) = (x, y)) = false := by simp only [decide_eq_false_iff_not, Prod.mk.injEq]; omega
          by_cases hff : 1 ≤ f ∧ f ≤ 14
          · have hv := sd_torn hE.four hS3 hcb (by rw [hcf]; omega) (x + (p : Int), y + (q : Int)) hbd (by omega)
            rw [errV_ne ad (by decide)] at hv
            have z0 : wc.cell? ⟨tx, 0, none⟩ = some (.int .i64 (x + p)) := hZ3.cell 0
            have z1 : wc.cell? ⟨tx, 1, none⟩ = some (.int .i64 (y + q)) := hZ3.cell 1
            go_wp2_with fail
            refine hv.mono ?_
            rintro e w4 ⟨rfl, he4, c4, hS4, hd4, ho4, hw4⟩
            have hT4 := Eff.of3 hS3 he4 hT3 (by omega)
            have hZ4 := Eff.of3 hS3 he4 hZ3 (by omega)
            clear hv hS3 hT3 hZ3 z0 z1 he4
            have z0 : w4.cell? ⟨tx, 0, none⟩ = some (.int .i64 (x + p)) := hZ4.cell 0
            have z1 : w4.cell? ⟨tx, 1, none⟩ = some (.int .i64 (y + q)) := hZ4.cell 1
            have t0 : w4.cell? ⟨tn, 0, none⟩ = some (.int .i64 x) := hT4.cell 0
            have t1 : w4.cell? ⟨tn, 1, none⟩ = some (.int .i64 y) := hT4.cell 1
            have hsm := sameR_any (x + (p : Int), y + (q : Int)) (x, y) w4
            rw [hne] at hsm
            go_wp2_with fail
            refine hsm.mono ?_
            rintro e w5 ⟨rfl, hb5⟩
            have hS5 := hS4.on hb5
            have hT5 := (Eff.of_below (S := fun _ => False) hb5).blk hT4 (fun h => h)
            have hZ5 := (Eff.of_below (S := fun _ => False) hb5).blk hZ4 (fun h => h)
            clear hsm hS4 hT4 hZ4 hb5 z0 z1 t0 t1
            go_wp2_with fail
            have hS6 : Sd w (_root_.Go.World.drew w5) b g sb c4 ((x, y), z) := hS5.on ((Below.refl _ _).drew)
            have hT6 : Blk (_root_.Go.World.drew w5) tn [.int .i64 x, .int .i64 y] 59 := hT5
            have hZ6 : Blk (_root_.Go.World.drew w5) tx [.int .i64 (x + p), .int .i64 (y + q)] 59 := hZ5
            have hdn := down_any _ hS6.cell
            rw [hd4] at hdn
            clear hS5 hT5 hZ5
            refine wp_region_held_drew (S := fun w' => True) (by kernel_rfl) ?_ (fun hHeld => ?_)
            · (try dsimp only); (try trivial)
            refine held_take 0 ?_ rfl (by kernel_rfl) (by kernel_rfl) (by kernel_rfl) (fun _ _ _ h => h) (by rfl) ?_ hHeld ?_
            rotate_left
            · (intro w hSw; (try dsimp only at hSw); go_simp; try with_reducible rfl)
            try simp only [Act.put, List.setIfInBounds_toArray, List.set_cons_zero, List.set_cons_succ]
            refine held_take 1 ?_ rfl (by kernel_rfl) (by kernel_rfl) (by kernel_rfl) (fun _ _ _ h => h) (by rfl) ?_ hHeld ?_
            rotate_left
            · (intro w hSw; (try dsimp only at hSw); go_simp; try with_reducible rfl)
            try simp only [Act.put, List.setIfInBounds_toArray, List.set_cons_zero, List.set_cons_succ]
            refine held_take 2 ?_ rfl (by kernel_rfl) (by kernel_rfl) (by kernel_rfl) (fun _ _ _ h => h) (by rfl) ?_ hHeld ?_
            rotate_left
            · (intro w hSw; (try dsimp only at hSw); go_simp; try with_reducible rfl)
            try simp only [Act.put, List.setIfInBounds_toArray, List.set_cons_zero, List.set_cons_succ]
            refine held_one 3 rfl (by kernel_rfl) (by rfl) (fun K hK => ?_)
            go_simp
            refine hdn.mono ?_
            rintro e w' ⟨rfl, rfl⟩
            refine hK.out _ _ ?_ (fun hHeld2 => ?_)
            · (try dsimp only); (try trivial)
            clear hK K hHeld
            have hHeld := hHeld2
            clear hHeld2
            try simp only [Act.put, List.setIfInBounds_toArray, List.set_cons_zero, List.set_cons_succ]
            refine held_take 4 ?_ rfl (by kernel_rfl) (by kernel_rfl) (by kernel_rfl) (fun _ _ _ h => h) (by rfl) ?_ hHeld ?_
            rotate_left
            · (intro w hSw; (try dsimp only at hSw); go_simp; try with_reducible rfl)
            try simp only [Act.put, List.setIfInBounds_toArray, List.set_cons_zero, List.set_cons_succ]
            refine wpAnyH_done (by kernel_rfl) ?_ _
            clear hHeld
            have hbk := sd_back hS6
            have hbf : c4.back.fuse = 0 := rfl
            have hbw : c4.back.writes ≤ 14 * (k : Int) + 14 := by simp only [Cl.back]; omega
            go_wp2_with fail
            refine hbk.mono ?_
            rintro e w7 ⟨rfl, hS7, he7⟩
            have hT7 := he7.blk hT6 (fun q => by rcases q with q | q | q <;> omega)
            have hZ7 := he7.blk hZ6 (fun q => by rcases q with q | q | q <;> omega)
            clear hbk hdn hS6 hT6 hZ6 he7 hd4 hw4
            generalize c4.back = c5 at *
            have hop := st_open hE.four hS7
            have htl7 : tn < w7.heap.size := hT7.lt
            have hxl7 : tx < w7.heap.size := hZ7.lt
            go_wp2_with fail
            refine hop.mono ?_
            rintro e w8 ⟨t, rfl, hS8, _, hb8, hlt8⟩
            rw [ho4] at hS8
            have hT8 := (Eff.of_below (S := fun _ => False) hb8).blk hT7 (fun h => h)
            have hZ8 := (Eff.of_below (S := fun _ => False) hb8).blk hZ7 (fun h => h)
            have htt : tn ≠ t ∧ tx ≠ t := ⟨by omega, by omega⟩
            clear hop hS7 hT7 hZ7 hb8 hlt8
            have hrc := record_any w8 hS8.store
            go_wp2_with fail
            refine hrc.mono ?_
            rintro e w9 ⟨rfl, hb9⟩
            have hS9 := hS8.on hb9
            have hT9 := (Eff.of_below (S := fun _ => False) hb9).blk hT8 (fun h => h)
            have hZ9 := (Eff.of_below (S := fun _ => False) hb9).blk hZ8 (fun h => h)
            clear hrc hS8 hT8 hZ8 hb9
            go_upto_region 28 with (fail)
            have hb10 : Below w9.heap.size w9 (w9.alloc (.cells #[.int .i64 x, .int .i64 y] 59)) := (Below.refl _ _).alloc (Nat.le_refl _) _
            have hG10 : Blk (w9.alloc (.cells #[.int .i64 x, .int .i64 y] 59)) w9.heap.size [.int .i64 x, .int .i64 y] 59 := Blk.new _ _ _
            have hS10 := hS9.on hb10
            have hT10 := (Eff.of_below (S := fun _ => False) hb10).blk hT9 (fun h => h)
            have hZ10 := (Eff.of_below (S := fun _ => False) hb10).blk hZ9 (fun h => h)
            clear hS9 hT9 hZ9 hb10
            generalize w9.alloc (.cells #[.int .i64 x, .int .i64 y] 59) = w10 at *
            generalize w9.heap.size = tg at *
            have z0 : w10.cell? ⟨tx, 0, none⟩ = some (.int .i64 (x + p)) := hZ10.cell 0
            have z1 : w10.cell? ⟨tx, 1, none⟩ = some (.int .i64 (y + q)) := hZ10.cell 1
            have t0 : w10.cell? ⟨tn, 0, none⟩ = some (.int .i64 x) := hT10.cell 0
            have t1 : w10.cell? ⟨tn, 1, none⟩ = some (.int .i64 y) := hT10.cell 1
            have g0 : w10.cell? ⟨tg, 0, none⟩ = some (.int .i64 x) := hG10.cell 0
            have g1 : w10.cell? ⟨tg, 1, none⟩ = some (.int .i64 y) := hG10.cell 1
            have hsm := sameR_any (x, y) (x, y) w10
            rw [show decide ((x, y) = (x, y)) = true from by simp] at hsm
            go_wp2_with fail
            refine hsm.mono ?_
            rintro e w11 ⟨rfl, hb11⟩
            have hS11 := hS10.on hb11
            have hT11 := (Eff.of_below (S := fun _ => False) hb11).blk hT10 (fun h => h)
            have hG11 := (Eff.of_below (S := fun _ => False) hb11).blk hG10 (fun h => h)
            clear hsm hS10 hT10 hZ10 hG10 hb11 z0 z1 t0 t1 g0 g1
            have g0 : w11.cell? ⟨tg, 0, none⟩ = some (.int .i64 x) := hG11.cell 0
            have g1 : w11.cell? ⟨tg, 1, none⟩ = some (.int .i64 y) := hG11.cell 1
            have t0 : w11.cell? ⟨tn, 0, none⟩ = some (.int .i64 x) := hT11.cell 0
            have t1 : w11.cell? ⟨tn, 1, none⟩ = some (.int .i64 y) := hT11.cell 1
            have hff2 : ∀ o, w11.frozen? ⟨tn, o, none⟩ = false := hT11.frozen
            have he20 := (((Eff.one tn w11).set 0 (.int .i64 x)).set 1 (.int .i64 y))
            have hT20 := (hT11.set 0 (.int .i64 x)).set 1 (.int .i64 y)
            have hS20 := hS11.off1 he20 ⟨by omega, by omega, by omega⟩ htW
            have HF := hid (And.intro hS20 hT20)
            clear hS11 hT11 hG11 he20 hS20 hT20
            go_wp2_with fail
            go_roundw
            case rel => unfold TearRel; exact ⟨k + 1, by omega, by go_num, t, c5, x, y, z, rfl, HF.out.1, hbf, ho4, by omega, by omega, by omega, HF.out.2, htb, htg, by omega, htW⟩
            case measure => simp [intOf]; omega
          · have hv := sd_saved hE.four hS3 hcb (by rw [hcf]; omega) (x + (p : Int), y + (q : Int)) hbd (by omega)
            have z0 : wc.cell? ⟨tx, 0, none⟩ = some (.int .i64 (x + p)) := hZ3.cell 0
            have z1 : wc.cell? ⟨tx, 1, none⟩ = some (.int .i64 (y + q)) := hZ3.cell 1
            go_wp2_with fail
            refine hv.mono ?_
            rintro e w4 ⟨rfl, he4, c4, hS4, hd4, ho4, hw4⟩
            have hT4 := Eff.of3 hS3 he4 hT3 (by omega)
            have hZ4 := Eff.of3 hS3 he4 hZ3 (by omega)
            clear hv hS3 hT3 hZ3 z0 z1 he4
            have z0 : w4.cell? ⟨tx, 0, none⟩ = some (.int .i64 (x + p)) := hZ4.cell 0
            have z1 : w4.cell? ⟨tx, 1, none⟩ = some (.int .i64 (y + q)) := hZ4.cell 1
            have t0 : w4.cell? ⟨tn, 0, none⟩ = some (.int .i64 x) := hT4.cell 0
            have t1 : w4.cell? ⟨tn, 1, none⟩ = some (.int .i64 y) := hT4.cell 1
            have hsm := sameR_any (x + (p : Int), y + (q : Int)) (x, y) w4
            rw [hne] at hsm
            go_wp2_with fail
            refine hsm.mono ?_
            rintro e w5 ⟨rfl, hb5⟩
            have hS5 := hS4.on hb5
            have hT5 := (Eff.of_below (S := fun _ => False) hb5).blk hT4 (fun h => h)
            have hZ5 := (Eff.of_below (S := fun _ => False) hb5).blk hZ4 (fun h => h)
            clear hsm hS4 hT4 hZ4 hb5 z0 z1 t0 t1
            go_wp2_with fail
            have hS6 : Sd w (_root_.Go.World.drew w5) b g sb c4 ((x + (p : Int), y + (q : Int)), (saveS z : Int)) := hS5.on ((Below.refl _ _).drew)
            have hT6 : Blk (_root_.Go.World.drew w5) tn [.int .i64 x, .int .i64 y] 59 := hT5
            have hZ6 : Blk (_root_.Go.World.drew w5) tx [.int .i64 (x + p), .int .i64 (y + q)] 59 := hZ5
            have hdn := down_any _ hS6.cell
            rw [hd4] at hdn
            clear hS5 hT5 hZ5
            refine wp_region_held_drew (S := fun w' => True) (by kernel_rfl) ?_ (fun hHeld => ?_)
            · (try dsimp only); (try trivial)
            refine held_take 0 ?_ rfl (by kernel_rfl) (by kernel_rfl) (by kernel_rfl) (fun _ _ _ h => h) (by rfl) ?_ hHeld ?_
            rotate_left
            · (intro w hSw; (try dsimp only at hSw); go_simp; try with_reducible rfl)
            try simp only [Act.put, List.setIfInBounds_toArray, List.set_cons_zero, List.set_cons_succ]
            refine held_take 1 ?_ rfl (by kernel_rfl) (by kernel_rfl) (by kernel_rfl) (fun _ _ _ h => h) (by rfl) ?_ hHeld ?_
            rotate_left
            · (intro w hSw; (try dsimp only at hSw); go_simp; try with_reducible rfl)
            try simp only [Act.put, List.setIfInBounds_toArray, List.set_cons_zero, List.set_cons_succ]
            refine held_take 2 ?_ rfl (by kernel_rfl) (by kernel_rfl) (by kernel_rfl) (fun _ _ _ h => h) (by rfl) ?_ hHeld ?_
            rotate_left
            · (intro w hSw; (try dsimp only at hSw); go_simp; try with_reducible rfl)
            try simp only [Act.put, List.setIfInBounds_toArray, List.set_cons_zero, List.set_cons_succ]
            refine held_one 3 rfl (by kernel_rfl) (by rfl) (fun K hK => ?_)
            go_simp
            refine hdn.mono ?_
            rintro e w' ⟨rfl, rfl⟩
            refine hK.out _ _ ?_ (fun hHeld2 => ?_)
            · (try dsimp only); (try trivial)
            clear hK K hHeld
            have hHeld := hHeld2
            clear hHeld2
            try simp only [Act.put, List.setIfInBounds_toArray, List.set_cons_zero, List.set_cons_succ]
            refine held_take 4 ?_ rfl (by kernel_rfl) (by kernel_rfl) (by kernel_rfl) (fun _ _ _ h => h) (by rfl) ?_ hHeld ?_
            rotate_left
            · (intro w hSw; (try dsimp only at hSw); go_simp; try with_reducible rfl)
            try simp only [Act.put, List.setIfInBounds_toArray, List.set_cons_zero, List.set_cons_succ]
            refine wpAnyH_done (by kernel_rfl) ?_ _
            clear hHeld
            have hbk := sd_back hS6
            have hbf : c4.back.fuse = 0 := rfl
            have hbw : c4.back.writes ≤ 14 * (k : Int) + 14 := by simp only [Cl.back]; omega
            go_wp2_with fail
            refine hbk.mono ?_
            rintro e w7 ⟨rfl, hS7, he7⟩
            have hT7 := he7.blk hT6 (fun q => by rcases q with q | q | q <;> omega)
            have hZ7 := he7.blk hZ6 (fun q => by rcases q with q | q | q <;> omega)
            clear hbk hdn hS6 hT6 hZ6 he7 hd4 hw4
            generalize c4.back = c5 at *
            have hop := st_open hE.four hS7
            have htl7 : tn < w7.heap.size := hT7.lt
            have hxl7 : tx < w7.heap.size := hZ7.lt
            go_wp2_with fail
            refine hop.mono ?_
            rintro e w8 ⟨t, rfl, hS8, _, hb8, hlt8⟩
            rw [ho4] at hS8
            have hT8 := (Eff.of_below (S := fun _ => False) hb8).blk hT7 (fun h => h)
            have hZ8 := (Eff.of_below (S := fun _ => False) hb8).blk hZ7 (fun h => h)
            have htt : tn ≠ t ∧ tx ≠ t := ⟨by omega, by omega⟩
            clear hop hS7 hT7 hZ7 hb8 hlt8
            have hrc := record_any w8 hS8.store
            go_wp2_with fail
            refine hrc.mono ?_
            rintro e w9 ⟨rfl, hb9⟩
            have hS9 := hS8.on hb9
            have hT9 := (Eff.of_below (S := fun _ => False) hb9).blk hT8 (fun h => h)
            have hZ9 := (Eff.of_below (S := fun _ => False) hb9).blk hZ8 (fun h => h)
            clear hrc hS8 hT8 hZ8 hb9
            go_upto_region 28 with (fail)
            have hb10 : Below w9.heap.size w9 (w9.alloc (.cells #[.int .i64 (x + p), .int .i64 (y + q)] 59)) := (Below.refl _ _).alloc (Nat.le_refl _) _
            have hG10 : Blk (w9.alloc (.cells #[.int .i64 (x + p), .int .i64 (y + q)] 59)) w9.heap.size [.int .i64 (x + p), .int .i64 (y + q)] 59 := Blk.new _ _ _
            have hS10 := hS9.on hb10
            have hT10 := (Eff.of_below (S := fun _ => False) hb10).blk hT9 (fun h => h)
            have hZ10 := (Eff.of_below (S := fun _ => False) hb10).blk hZ9 (fun h => h)
            clear hS9 hT9 hZ9 hb10
            generalize w9.alloc (.cells #[.int .i64 (x + p), .int .i64 (y + q)] 59) = w10 at *
            generalize w9.heap.size = tg at *
            have z0 : w10.cell? ⟨tx, 0, none⟩ = some (.int .i64 (x + p)) := hZ10.cell 0
            have z1 : w10.cell? ⟨tx, 1, none⟩ = some (.int .i64 (y + q)) := hZ10.cell 1
            have t0 : w10.cell? ⟨tn, 0, none⟩ = some (.int .i64 x) := hT10.cell 0
            have t1 : w10.cell? ⟨tn, 1, none⟩ = some (.int .i64 y) := hT10.cell 1
            have g0 : w10.cell? ⟨tg, 0, none⟩ = some (.int .i64 (x + p)) := hG10.cell 0
            have g1 : w10.cell? ⟨tg, 1, none⟩ = some (.int .i64 (y + q)) := hG10.cell 1
            have hsm := sameR_any (x + (p : Int), y + (q : Int)) (x, y) w10
            rw [hne] at hsm
            go_wp2_with fail
            refine hsm.mono ?_
            rintro e w11 ⟨rfl, hb11⟩
            have hS11 := hS10.on hb11
            have hT11 := (Eff.of_below (S := fun _ => False) hb11).blk hT10 (fun h => h)
            have hZ11 := (Eff.of_below (S := fun _ => False) hb11).blk hZ10 (fun h => h)
            have hG11 := (Eff.of_below (S := fun _ => False) hb11).blk hG10 (fun h => h)
            clear hsm hS10 hT10 hZ10 hG10 hb11 z0 z1 t0 t1 g0 g1
            have z0 : w11.cell? ⟨tx, 0, none⟩ = some (.int .i64 (x + p)) := hZ11.cell 0
            have z1 : w11.cell? ⟨tx, 1, none⟩ = some (.int .i64 (y + q)) := hZ11.cell 1
            have g0 : w11.cell? ⟨tg, 0, none⟩ = some (.int .i64 (x + p)) := hG11.cell 0
            have g1 : w11.cell? ⟨tg, 1, none⟩ = some (.int .i64 (y + q)) := hG11.cell 1
            have hsm : ∀ w', _ := fun w' => sameR_any (x + (p : Int), y + (q : Int)) (x + (p : Int), y + (q : Int)) w'
            rw [show decide ((x + (p : Int), y + (q : Int)) = (x + (p : Int), y + (q : Int))) = true from by simp] at hsm
            go_wp2_with fail
            refine (hsm _).mono ?_
            rintro e w12 ⟨rfl, hb12⟩
            have hS12 := hS11.on hb12
            have hT12 := (Eff.of_below (S := fun _ => False) hb12).blk hT11 (fun h => h)
            have hZ12 := (Eff.of_below (S := fun _ => False) hb12).blk hZ11 (fun h => h)
            have hG12 := (Eff.of_below (S := fun _ => False) hb12).blk hG11 (fun h => h)
            clear hS11 hT11 hZ11 hG11 hb12 z0 z1 g0 g1
            have z0 : w12.cell? ⟨tx, 0, none⟩ = some (.int .i64 (x + p)) := hZ12.cell 0
            have z1 : w12.cell? ⟨tx, 1, none⟩ = some (.int .i64 (y + q)) := hZ12.cell 1
            have g0 : w12.cell? ⟨tg, 0, none⟩ = some (.int .i64 (x + p)) := hG12.cell 0
            have g1 : w12.cell? ⟨tg, 1, none⟩ = some (.int .i64 (y + q)) := hG12.cell 1
            go_wp2_with fail
            refine (hsm _).mono ?_
            rintro e w13 ⟨rfl, hb13⟩
            have hS13 := hS12.on hb13
            have hT13 := (Eff.of_below (S := fun _ => False) hb13).blk hT12 (fun h => h)
            have hG13 := (Eff.of_below (S := fun _ => False) hb13).blk hG12 (fun h => h)
            clear hsm hS12 hT12 hZ12 hG12 hb13 z0 z1 g0 g1
            have g0 : w13.cell? ⟨tg, 0, none⟩ = some (.int .i64 (x + p)) := hG13.cell 0
            have g1 : w13.cell? ⟨tg, 1, none⟩ = some (.int .i64 (y + q)) := hG13.cell 1
            have t0 : w13.cell? ⟨tn, 0, none⟩ = some (.int .i64 x) := hT13.cell 0
            have t1 : w13.cell? ⟨tn, 1, none⟩ = some (.int .i64 y) := hT13.cell 1
            have hff2 : ∀ o, w13.frozen? ⟨tn, o, none⟩ = false := hT13.frozen
            have he20 := (((Eff.one tn w13).set 0 (.int .i64 (x + p))).set 1 (.int .i64 (y + q)))
            have hT20 := (hT13.set 0 (.int .i64 (x + p))).set 1 (.int .i64 (y + q))
            have hS20 := hS13.off1 he20 ⟨by omega, by omega, by omega⟩ htW
            have HF := hid (And.intro hS20 hT20)
            clear hS13 hT13 hG13 he20 hS20 hT20
            go_wp2_with fail
            go_roundw
            case rel => unfold TearRel; exact ⟨k + 1, by omega, by go_num, t, c5, x + p, y + q, (saveS z : Int), rfl, HF.out.1, hbf, ho4, by omega, by omega, by omega, HF.out.2, htb, htg, by omega, htW⟩
            case measure => simp [intOf]; omega
        · go_wp2_with fail
          go_ret
          exact ⟨rfl, hS.below⟩
    · have h30' : ¬ 30 < (l.length : Int) := by omega
      have h30b' : 30 < (arms.length : Int) := by omega
      go_enter Tryd.func11, Tryd.ntmps11
      go_wp2_with fail
      refine (first3_any w hE.four).mono ?_
      rintro e w1 ⟨rfl, hB1⟩
      go_wp2_with fail
      go_ret
      exact ⟨rfl, hB1⟩
  · have h30' : 30 < (l.length : Int) := by omega
    go_enter Tryd.func11, Tryd.ntmps11
    go_wp2_with fail
    refine (first3_any w hE.four).mono ?_
    rintro e w1 ⟨rfl, hB1⟩
    go_wp2_with fail
    go_ret
    exact ⟨rfl, hB1⟩
end Go.Proofs.YtmfdpjijpbgjbaaDoor
