/- MailOrder: the walk. -/
import Derived.Test.YtnhfnklbeifbhaaMailFullWalk
import Derived.Test.YtnhfnklbeifbhaaMailAll
import Derived.Deep.CutBlock
namespace Go.Proofs.Ytnhfnklbeifbhaa
open Go.RowKit
set_option linter.unusedSimpArgs false

def ordD (n : Nat) : List (Int × List Int) := (List.range n).map fun i : Nat => ((i : Int), [(i : Int)])
theorem ordD_succ (n : Nat) : ordD (n + 1) = ordD n ++ [((n : Int), [(n : Int)])] := by simp [ordD, List.range_succ]
theorem ordD_len (n : Nat) : (ordD n).length = n := by simp [ordD]
theorem ordD_get {n t : Nat} (h : t < n) : (ordD n)[t]? = some ((t : Int), [(t : Int)]) := by simp [ordD, h]
/-- Two of them swapped. -/
def swapD (n i k : Nat) : List (Int × List Int) := ((ordD n).set i ((k : Int), [(k : Int)])).set k ((i : Int), [(i : Int)])
theorem swapD_len (n i k : Nat) : (swapD n i k).length = n := by simp [swapD, ordD_len]
theorem swapAt_lt {n i k m : Nat} (hi : i < n) (hk : k < n) (hm : m < n) : swapAt i k m < n := by unfold swapAt; split <;> (try split) <;> omega
theorem swapD_get {n i k m : Nat} (hi : i < n) (hk : k < n) (hm : m < n) : (swapD n i k)[m]? = some (((swapAt i k m : Nat) : Int), [((swapAt i k m : Nat) : Int)]) := by
  unfold swapD
  rw [swap_get (ordD_get hi) (ordD_get hk), ordD_get (swapAt_lt hi hk hm)]
theorem swapAt_k (i k : Nat) : swapAt i k k = i := by simp [swapAt]
theorem swapAt_i (i k : Nat) : swapAt i k i = k := by unfold swapAt; split <;> simp [*]
theorem swapAt_two (i k m : Nat) : swapAt i k (swapAt k i m) = m := by unfold swapAt; split <;> split <;> (try split) <;> (try split) <;> omega
theorem swapD_back {n i k : Nat} (hi : i < n) (hk : k < n) : ((swapD n i k).set k ((k : Int), [(k : Int)])).set i ((i : Int), [(i : Int)]) = ordD n := by
  have h1 := swapD_get hi hk hk
  have h2 := swapD_get hi hk hi
  rw [swapAt_k] at h1
  rw [swapAt_i] at h2
  apply List.ext_getElem?
  intro m
  rw [swap_get h1 h2]
  unfold swapD
  rw [swap_get (ordD_get hi) (ordD_get hk), swapAt_two]
theorem bs_short {l : List (Int × List Int)} {n : Nat} (h : l = ordD n) : ∀ p ∈ l, p.2.length ≤ 1000000 := by
  subst h
  intro p hp
  obtain ⟨i, _, rfl⟩ := List.mem_map.1 hp
  simp

def PutO (W : World) (b n : Nat) (i : Value) (wr : World) : Prop := ∃ (k : Nat) (F : Nat → Prop), k ≤ n ∧ i = .int .i64 k ∧ MailL wr b F (ordD k) 0 ∧ (∀ j, F j → W.heap.size ≤ j) ∧ Below W.heap.size W wr
def SeeO (W : World) (b n : Nat) (F F0 F1 : Nat → Prop) (v0 v1 : Value) (i : Value) (wr : World) : Prop := ∃ k : Nat, k ≤ n ∧ i = .int .i64 k ∧ MailL wr b F (ordD n) 0 ∧ ListL wr v0 F0 (ordD n) ∧ ListL wr v1 F1 (ordD n) ∧ Below W.heap.size W wr
attribute [irreducible] PutO SeeO
theorem drewN_list {w : World} {v : Value} {F : Nat → Prop} {D : List (Int × List Int)} (h : ListL w v F D) (n : Nat) : ListL (w.drewN n) v F D := h.below (below_drewN (Below.refl _ _) n)

set_option maxRecDepth 100000 in
set_option maxHeartbeats 8000000 in
theorem mailOrder_walk (a0 a1 a2 : Int) (w : World) : Calls Try.prog 5 #[.int .i64 a0, .int .i64 a1, .int .i64 a2] w (SaysTrue w) := by
  have hz := zero_mail
  have hz2 := zero_item
  go_enter Try.func5, Try.ntmps5
  go_wp2_with fail
  refine (first_any _).mono ?_
  rintro e w1 ⟨rfl, hB1⟩
  go_wp2_with fail
  refine (number_any a0 30 (by omega) (by omega) _).mono ?_
  rintro e w' ⟨rfl, rfl⟩
  obtain ⟨n, hn, hn1⟩ : ∃ n : Nat, a0 % 30 = n ∧ n < 30 := ⟨(a0 % 30).toNat, by omega, by omega⟩
  rw [hn]
  clear hn
  go_wp2_with fail
  obtain ⟨N, hN, hN1, hN2⟩ : ∃ N : Nat, ((n : Int) + 2 = (N : Int)) ∧ 2 ≤ N ∧ N ≤ 31 := ⟨n + 2, by omega, by omega, by omega⟩
  rw [hN]
  clear hN
  refine (number_any a1 (N : Int) (by omega) (by omega) _).mono ?_
  rintro e w' ⟨rfl, rfl⟩
  obtain ⟨t, ht, ht1⟩ : ∃ t : Nat, a1 % (N : Int) = t ∧ t < N := ⟨(a1 % (N : Int)).toNat, by have := Int.emod_nonneg a1 (show (N : Int) ≠ 0 by omega); omega, by have := Int.emod_lt_of_pos a1 (show 0 < (N : Int) by omega); omega⟩
  rw [ht]
  clear ht
  go_wp2_with fail
  refine (number_any a2 (N : Int) (by omega) (by omega) _).mono ?_
  rintro e w' ⟨rfl, rfl⟩
  obtain ⟨s, hs, hs1⟩ : ∃ s : Nat, a2 % (N : Int) = s ∧ s < N := ⟨(a2 % (N : Int)).toNat, by have := Int.emod_nonneg a2 (show (N : Int) ≠ 0 by omega); omega, by have := Int.emod_lt_of_pos a2 (show 0 < (N : Int) by omega); omega⟩
  rw [hs]
  clear hs
  go_wp2_with fail
  obtain ⟨w2, hw2⟩ : ∃ w2, w2 = w1.alloc (.cells #[.slice none 0 0, .int .i64 0] 26) := ⟨_, rfl⟩
  have hm2 : MailL w2 w1.heap.size (· = w1.heap.size) [] 0 := MailL.new (by rw [hw2]; exact Blk.new w1 _ _)
  have hB2 : Below w.heap.size w w2 := by rw [hw2]; exact hB1.alloc hB1.size _
  rw [← hw2]
  have hG2 : ∀ j, j = w1.heap.size → w.heap.size ≤ j := fun j hj => by rw [hj]; exact hB1.size
  clear hw2 hB1
  generalize w1.heap.size = b at *
  go_loopw [9] (fun i wr => PutO w b N i wr) (fun i _ => N - (intOf i).toNat)
  case atStart => unfold PutO; exact ⟨0, _, by omega, rfl, hm2, hG2, hB2⟩
  case round =>
    clear hm2 hG2 hB2
    unfold PutO at hrel
    obtain ⟨k, F, hk, rfl, hm, hG, hB⟩ := hrel
    by_cases hlt : k < N
    · go_wp2_with fail
      have hb3 : Below wr.heap.size wr (wr.alloc (.cells #[.int .u8 (k : Int)] 5)) := (Below.refl _ _).alloc (Nat.le_refl _) _
      have hm3 := hm.below hb3
      have hB3 := hB.trans (hb3.mono hB.size)
      have hp := putL ⟨k, some ⟨wr.heap.size, 0, none⟩, 1, [(k : Int)]⟩ _ hm3 (here_lit wr k [(k : Int)] 1 5 _ rfl) (by rw [ordD_len]; omega) (by simp)
      refine hp.mono ?_
      rintro e w4 ⟨F4, rfl, hm4, hF4, he4⟩
      have hB4 := below_own hB3 he4 hB3.size hG
      have hG4 := newF hF4 hG hB3.size
      have hm4' : MailL w4 b F4 (ordD (k + 1)) 0 := by rw [ordD_succ]; exact hm4
      clear hp hm3 hm hm4 hB hb3 hB3 hG hF4 he4
      go_wp2_with fail
      go_roundw
      case rel => unfold PutO; exact ⟨k + 1, F4, by omega, by go_num, hm4', hG4, hB4⟩
      case measure => simp [intOf]; omega
    · obtain rfl : N = k := by omega
      clear hlt
      go_wp2_with fail
      refine (allL _ hm (by rw [ordD_len]; omega) (bs_short rfl)).mono ?_
      rintro e w3 ⟨v0, F0, rfl, hl3, hG0, hb3⟩
      have hm3 := hm.below hb3
      have hB3 := hB.trans (hb3.mono hB.size)
      have hFd : ∀ j, F0 j → ¬ F j := fun j h0 h => by have := hm.lt j h; have := hG0 j h0; omega
      obtain ⟨A0, c0, hv0⟩ := hl3.form
      rw [ordD_len] at hv0
      subst hv0
      clear hm hB hG0 hb3
      go_wp2_with fail
      refine (swapL t s _ _ _ hm3 (ordD_get ht1) (ordD_get hs1)).mono ?_
      rintro e w4 ⟨rfl, hm4, he4⟩
      have hl4 := hl3.eff he4 hFd
      have hB4 := below_own hB3 he4 hB3.size hG
      clear hm3 hl3 hB3 he4
      go_wp2_with fail
      have g1 := swapD_get ht1 hs1 hs1
      have g2 := swapD_get ht1 hs1 ht1
      rw [swapAt_k] at g1
      rw [swapAt_i] at g2
      refine (swapL s t _ _ _ hm4 g1 g2).mono ?_
      rintro e w5 ⟨rfl, hm5, he5⟩
      rw [show ((((ordD N).set t ((s : Int), [(s : Int)])).set s ((t : Int), [(t : Int)])).set s ((s : Int), [(s : Int)])).set t ((t : Int), [(t : Int)]) = ordD N from swapD_back ht1 hs1] at hm5
      have hl5 := hl4.eff he5 hFd
      have hB5 := below_own hB4 he5 hB4.size hG
      clear hm4 hl4 hB4 he5 g1 g2
      go_wp2_with fail
      refine (allL _ hm5 (by rw [ordD_len]; omega) (bs_short rfl)).mono ?_
      rintro e w6 ⟨v1, F1, rfl, hn6, hG1, hb6⟩
      have hm6 := hm5.below hb6
      have hl6 := hl5.below hb6
      have hB6 := hB5.trans (hb6.mono hB5.size)
      obtain ⟨A1, c1, hv1⟩ := hn6.form
      rw [ordD_len] at hv1
      subst hv1
      clear hm5 hl5 hB5 hb6 hG1
      go_wp2_with fail
      go_loopw [12] (fun i wr => SeeO w b N F F0 F1 (.slice A0 N c0) (.slice A1 N c1) i wr) (fun i _ => N - (intOf i).toNat)
      case atStart => unfold SeeO; exact ⟨0, by omega, rfl, hm6, hl6, hn6, hB6⟩
      case round =>
        clear hm6 hl6 hn6 hB6
        unfold SeeO at hrel
        obtain ⟨j, hj, rfl, hm, hl, hn, hB⟩ := hrel
        by_cases hlt : j < N
        · obtain ⟨g0, cap0, B0, d0, hv0, hc0, hc0m, x0, x1, xs0⟩ := hl.item (ordD_get hlt)
          obtain ⟨g1, cap1, B1, d1, hv1, hc1, hc1m, y0, y1, xs1⟩ := hn.item (ordD_get hlt)
          rw [ordD_len] at hv0 hv1 hc0 hc1
          simp only [Value.slice.injEq, true_and] at hv0 hv1
          obtain ⟨rfl, rfl⟩ := hv0
          obtain ⟨rfl, rfl⟩ := hv1
          have z0 : wr.drew.cell? ⟨g0, j * 2, none⟩ = some (.int .i64 j) := x0
          have z1 : wr.drew.cell? ⟨g0, j * 2 + 1, none⟩ = some (.slice B0 1 d0) := x1
          have z2 : wr.drew.cell? ⟨g1, j * 2, none⟩ = some (.int .i64 j) := y0
          have z3 : wr.drew.cell? ⟨g1, j * 2 + 1, none⟩ = some (.slice B1 1 d1) := y1
          have hb : Below wr.heap.size wr wr.drew := (Below.refl _ _).drew
          have hs0 : Sl wr.drew B0 ([(j : Int)].map (Value.int .u8)) := It.here.below (x := ⟨0, B0, d0, [(j : Int)]⟩) xs0 hb
          have hs1' : Sl wr.drew B1 ([(j : Int)].map (Value.int .u8)) := It.here.below (x := ⟨0, B1, d1, [(j : Int)]⟩) xs1 hb
          have HL := hid (And.intro hm (And.intro hl (And.intro hn hB)))
          clear x0 x1 y0 y1 xs0 xs1 hb hm hl hn hB
          have hq1 : ((N : Int) != (N : Int)) = false := by simp
          have hq2 : ((j : Int) != (j : Int)) = false := by simp
          go_wp2_with fail
          refine wp_region_held_drew (S := fun w' => w'.cell? ⟨g0, j * 2, none⟩ = some (.int .i64 j) ∧ w'.cell? ⟨g0, j * 2 + 1, none⟩ = some (.slice B0 1 d0) ∧ w'.cell? ⟨g1, j * 2, none⟩ = some (.int .i64 j) ∧ w'.cell? ⟨g1, j * 2 + 1, none⟩ = some (.slice B1 1 d1)) (by kernel_rfl) ?_ (fun hHeld => ?_)
          · (try dsimp only); (first | exact ⟨z0, z1, z2, z3⟩)
          refine held_take 0 ?_ rfl (by kernel_rfl) (by kernel_rfl) (by kernel_rfl) (fun _ _ _ h => h) (by rfl) ?_ hHeld ?_
          rotate_left
          · (intro w hSw; (try dsimp only at hSw); go_simp; try with_reducible rfl)
          try simp only [Act.put, List.setIfInBounds_toArray, List.set_cons_zero, List.set_cons_succ]
          refine held_take 1 ?_ rfl (by kernel_rfl) (by kernel_rfl) (by kernel_rfl) (fun _ _ _ h => h) (by rfl) ?_ hHeld ?_
          rotate_left
          · (intro w hSw; (try dsimp only at hSw); go_simp; try with_reducible rfl)
          try simp only [Act.put, List.setIfInBounds_toArray, List.set_cons_zero, List.set_cons_succ]
          refine held_take 2 ?_ rfl (by kernel_rfl) (by kernel_rfl) (by kernel_rfl) (fun _ _ _ h => h) (by rfl) ?_ hHeld ?_
          rotate_left
          · (intro w hSw; (try dsimp only at hSw); go_simp; try with_reducible rfl)
          try simp only [Act.put, List.setIfInBounds_toArray, List.set_cons_zero, List.set_cons_succ]
          refine held_take 3 ?_ rfl (by kernel_rfl) (by kernel_rfl) (by kernel_rfl) (fun _ _ _ h => h) (by rfl) ?_ hHeld ?_
          rotate_left
          · (intro w hSw; (try dsimp only at hSw); go_simp; try with_reducible rfl)
          try simp only [Act.put, List.setIfInBounds_toArray, List.set_cons_zero, List.set_cons_succ]
          refine held_take 4 ?_ rfl (by kernel_rfl) (by kernel_rfl) (by kernel_rfl) (fun _ _ _ h => h) (by rfl) ?_ hHeld ?_
          rotate_left
          · (intro w hSw; (try dsimp only at hSw); go_simp; try with_reducible rfl)
          try simp only [Act.put, List.setIfInBounds_toArray, List.set_cons_zero, List.set_cons_succ]
          refine held_take 5 ?_ rfl (by kernel_rfl) (by kernel_rfl) (by kernel_rfl) (fun _ _ _ h => h) (by rfl) ?_ hHeld ?_
          rotate_left
          · (intro w hSw; (try dsimp only at hSw); go_simp; try with_reducible rfl)
          try simp only [Act.put, List.setIfInBounds_toArray, List.set_cons_zero, List.set_cons_succ]
          refine held_take 6 ?_ rfl (by kernel_rfl) (by kernel_rfl) (by kernel_rfl) (fun _ _ _ h => h) (by rfl) ?_ hHeld ?_
          rotate_left
          · (intro w hSw; (try dsimp only at hSw); go_simp; try with_reducible rfl)
          try simp only [Act.put, List.setIfInBounds_toArray, List.set_cons_zero, List.set_cons_succ]
          refine held_take 7 ?_ rfl (by kernel_rfl) (by kernel_rfl) (by kernel_rfl) (fun _ _ _ h => h) (by rfl) ?_ hHeld ?_
          rotate_left
          · (intro w hSw; (try dsimp only at hSw); go_simp; try with_reducible rfl)
          try simp only [Act.put, List.setIfInBounds_toArray, List.set_cons_zero, List.set_cons_succ]
          refine held_take 8 ?_ rfl (by kernel_rfl) (by kernel_rfl) (by kernel_rfl) (fun _ _ _ h => h) (by rfl) ?_ hHeld ?_
          rotate_left
          · (intro w hSw; (try dsimp only at hSw); go_simp; try with_reducible rfl)
          try simp only [Act.put, List.setIfInBounds_toArray, List.set_cons_zero, List.set_cons_succ]
          refine held_take 9 ?_ rfl (by kernel_rfl) (by kernel_rfl) (by kernel_rfl) (fun _ _ _ h => h) (by rfl) ?_ hHeld ?_
          rotate_left
          · (intro w hSw; (try dsimp only at hSw); go_simp; try with_reducible rfl)
          try simp only [Act.put, List.setIfInBounds_toArray, List.set_cons_zero, List.set_cons_succ]
          refine held_take 10 ?_ rfl (by kernel_rfl) (by kernel_rfl) (by kernel_rfl) (fun _ _ _ h => h) (by rfl) ?_ hHeld ?_
          rotate_left
          · (intro w hSw; (try dsimp only at hSw); go_simp; try with_reducible rfl)
          try simp only [Act.put, List.setIfInBounds_toArray, List.set_cons_zero, List.set_cons_succ]
          refine held_take 11 ?_ rfl (by kernel_rfl) (by kernel_rfl) (by kernel_rfl) (fun _ _ _ h => h) (by rfl) ?_ hHeld ?_
          rotate_left
          · (intro w hSw; (try dsimp only at hSw); go_simp; try with_reducible rfl)
          try simp only [Act.put, List.setIfInBounds_toArray, List.set_cons_zero, List.set_cons_succ]
          refine held_take 12 ?_ rfl (by kernel_rfl) (by kernel_rfl) (by kernel_rfl) (fun _ _ _ h => h) (by rfl) ?_ hHeld ?_
          rotate_left
          · (intro w hSw; (try dsimp only at hSw); go_simp; try with_reducible rfl)
          try simp only [Act.put, List.setIfInBounds_toArray, List.set_cons_zero, List.set_cons_succ]
          refine held_take 13 ?_ rfl (by kernel_rfl) (by kernel_rfl) (by kernel_rfl) (fun _ _ _ h => h) (by rfl) ?_ hHeld ?_
          rotate_left
          · (intro w hSw; (try dsimp only at hSw); go_simp; try with_reducible rfl)
          try simp only [Act.put, List.setIfInBounds_toArray, List.set_cons_zero, List.set_cons_succ]
          refine held_take 14 ?_ rfl (by kernel_rfl) (by kernel_rfl) (by kernel_rfl) (fun _ _ _ h => h) (by rfl) ?_ hHeld ?_
          rotate_left
          · (intro w hSw; (try dsimp only at hSw); go_simp; try with_reducible rfl)
          try simp only [Act.put, List.setIfInBounds_toArray, List.set_cons_zero, List.set_cons_succ]
          refine held_take 15 ?_ rfl (by kernel_rfl) (by kernel_rfl) (by kernel_rfl) (fun _ _ _ h => h) (by rfl) ?_ hHeld ?_
          rotate_left
          · (intro w hSw; (try dsimp only at hSw); go_simp; try with_reducible rfl)
          try simp only [Act.put, List.setIfInBounds_toArray, List.set_cons_zero, List.set_cons_succ]
          refine held_take 16 ?_ rfl (by kernel_rfl) (by kernel_rfl) (by kernel_rfl) (fun _ _ _ h => h) (by rfl) ?_ hHeld ?_
          rotate_left
          · (intro w hSw; (try dsimp only at hSw); go_simp; try with_reducible rfl)
          try simp only [Act.put, List.setIfInBounds_toArray, List.set_cons_zero, List.set_cons_succ]
          refine held_take 17 ?_ rfl (by kernel_rfl) (by kernel_rfl) (by kernel_rfl) (fun _ _ _ h => h) (by rfl) ?_ hHeld ?_
          rotate_left
          · (intro w hSw; (try dsimp only at hSw); go_simp; try with_reducible rfl)
          try simp only [Act.put, List.setIfInBounds_toArray, List.set_cons_zero, List.set_cons_succ]
          refine held_take 18 ?_ rfl (by kernel_rfl) (by kernel_rfl) (by kernel_rfl) (fun _ _ _ h => h) (by rfl) ?_ hHeld ?_
          rotate_left
          · (intro w hSw; (try dsimp only at hSw); go_simp; try with_reducible rfl)
          try simp only [Act.put, List.setIfInBounds_toArray, List.set_cons_zero, List.set_cons_succ]
          refine held_take 19 ?_ rfl (by kernel_rfl) (by kernel_rfl) (by kernel_rfl) (fun _ _ _ h => h) (by rfl) ?_ hHeld ?_
          rotate_left
          · (intro w hSw; (try dsimp only at hSw); go_simp; try with_reducible rfl)
          try simp only [Act.put, List.setIfInBounds_toArray, List.set_cons_zero, List.set_cons_succ]
          refine held_take 20 ?_ rfl (by kernel_rfl) (by kernel_rfl) (by kernel_rfl) (fun _ _ _ h => h) (by rfl) ?_ hHeld ?_
          rotate_left
          · (intro w hSw; (try dsimp only at hSw); go_simp; try with_reducible rfl)
          try simp only [Act.put, List.setIfInBounds_toArray, List.set_cons_zero, List.set_cons_succ]
          refine held_take 21 ?_ rfl (by kernel_rfl) (by kernel_rfl) (by kernel_rfl) (fun _ _ _ h => h) (by rfl) ?_ hHeld ?_
          rotate_left
          · (intro w hSw; (try dsimp only at hSw); go_simp; try with_reducible rfl)
          try simp only [Act.put, List.setIfInBounds_toArray, List.set_cons_zero, List.set_cons_succ]
          refine held_take 22 ?_ rfl (by kernel_rfl) (by kernel_rfl) (by kernel_rfl) (fun _ _ _ h => h) (by rfl) ?_ hHeld ?_
          rotate_left
          · (intro w hSw; (try dsimp only at hSw); go_simp; try with_reducible rfl)
          try simp only [Act.put, List.setIfInBounds_toArray, List.set_cons_zero, List.set_cons_succ]
          refine held_take 23 ?_ rfl (by kernel_rfl) (by kernel_rfl) (by kernel_rfl) (fun _ _ _ h => h) (by rfl) ?_ hHeld ?_
          rotate_left
          · (intro w hSw; (try dsimp only at hSw); go_simp; try with_reducible rfl)
          try simp only [Act.put, List.setIfInBounds_toArray, List.set_cons_zero, List.set_cons_succ]
          refine held_take 24 ?_ rfl (by kernel_rfl) (by kernel_rfl) (by kernel_rfl) (fun _ _ _ h => h) (by rfl) ?_ hHeld ?_
          rotate_left
          · (intro w hSw; (try dsimp only at hSw); go_simp; try with_reducible rfl)
          try simp only [Act.put, List.setIfInBounds_toArray, List.set_cons_zero, List.set_cons_succ]
          refine held_take 25 ?_ rfl (by kernel_rfl) (by kernel_rfl) (by kernel_rfl) (fun _ _ _ h => h) (by rfl) ?_ hHeld ?_
          rotate_left
          · (intro w hSw; (try dsimp only at hSw); go_simp; try with_reducible rfl)
          try simp only [Act.put, List.setIfInBounds_toArray, List.set_cons_zero, List.set_cons_succ]
          refine held_take 26 ?_ rfl (by kernel_rfl) (by kernel_rfl) (by kernel_rfl) (fun _ _ _ h => h) (by rfl) ?_ hHeld ?_
          rotate_left
          · (intro w hSw; (try dsimp only at hSw); go_simp; try with_reducible rfl)
          try simp only [Act.put, List.setIfInBounds_toArray, List.set_cons_zero, List.set_cons_succ]
          refine held_take 27 ?_ rfl (by kernel_rfl) (by kernel_rfl) (by kernel_rfl) (fun _ _ _ h => h) (by rfl) ?_ hHeld ?_
          rotate_left
          · (intro w hSw; (try dsimp only at hSw); go_simp; try with_reducible rfl)
          try simp only [Act.put, List.setIfInBounds_toArray, List.set_cons_zero, List.set_cons_succ]
          refine held_one 28 rfl (by kernel_rfl) (by rfl) (fun K hK => ?_)
          go_simp
          refine (sameBytes_same B1 B0 d1 d0 [(j : Int)] _ hs1' hs0 (by simp)).mono ?_
          rintro e w' ⟨rfl, nq, rfl⟩
          have hm7 := drewN_mail HL.out.1 (1 + nq)
          have hl7 := drewN_list HL.out.2.1 (1 + nq)
          have hn7 := drewN_list HL.out.2.2.1 (1 + nq)
          have hB7 := below_drewN HL.out.2.2.2 (1 + nq)
          clear HL
          refine hK.out _ _ ?_ (fun hHeld2 => ?_)
          · (try dsimp only); (first | exact ⟨z0, z1, z2, z3⟩)
          clear hK K hHeld
          have hHeld := hHeld2
          clear hHeld2
          try simp only [Act.put, List.setIfInBounds_toArray, List.set_cons_zero, List.set_cons_succ]
          refine held_take 29 ?_ rfl (by kernel_rfl) (by kernel_rfl) (by kernel_rfl) (fun _ _ _ h => h) (by rfl) ?_ hHeld ?_
          rotate_left
          · (intro w hSw; (try dsimp only at hSw); go_simp; try with_reducible rfl)
          try simp only [Act.put, List.setIfInBounds_toArray, List.set_cons_zero, List.set_cons_succ]
          refine held_take 30 ?_ rfl (by kernel_rfl) (by kernel_rfl) (by kernel_rfl) (fun _ _ _ h => h) (by rfl) ?_ hHeld ?_
          rotate_left
          · (intro w hSw; (try dsimp only at hSw); go_simp; try with_reducible rfl)
          try simp only [Act.put, List.setIfInBounds_toArray, List.set_cons_zero, List.set_cons_succ]
          refine wpAnyH_done (by kernel_rfl) ?_ _
          clear hHeld
          go_wp2_with fail
          go_roundw
          case rel => unfold SeeO; exact ⟨j + 1, by omega, by go_num, hm7, hl7, hn7, hB7⟩
          case measure => simp [intOf]; omega
        · clear hl hn
          go_wp2_with fail
          refine (swapL t s _ _ _ hm (ordD_get ht1) (ordD_get hs1)).mono ?_
          rintro e w4 ⟨rfl, hm4, he4⟩
          have hB4 := below_own hB he4 hB.size hG
          have hm4' : MailL w4 b F ((swapD N t s).drop 0) 0 := hm4
          clear hm hB he4 hm4 hFd
          go_wp2_with fail
          go_loopw [13] (fun i wr => DropRel w b N (swapD N t s) i wr) (fun i _ => N - (intOf i).toNat)
          case atStart => unfold DropRel; exact ⟨0, F, by omega, rfl, hm4', hG, hB4⟩
          case round =>
            clear hm4' hG hB4
            unfold DropRel at hrel
            obtain ⟨q, F, hq, rfl, hm, hG, hB⟩ := hrel
            by_cases hlt : q < N
            · obtain ⟨x, hx⟩ : ∃ x, swapAt t s q = x := ⟨_, rfl⟩
              have hp0 : ((swapD N t s).drop q)[0]? = some ((x : Int), [(x : Int)]) := by rw [List.getElem?_drop, Nat.add_zero, swapD_get ht1 hs1 hlt, hx]
              have hxN : x < N := by rw [← hx]; exact swapAt_lt ht1 hs1 hlt
              have HP := hid (And.intro hp0 hx)
              clear hp0 hx
              go_upto_if 98 with (fail)
              go_cut [14] (fun v wx => v = .int .i64 ((if q = t then s else q : Nat) : Int) ∧ wx = wr)
              case first =>
                go_wp2_with fail
                · have h : (q : Int) = t := by first | assumption | (simp at *; omega)
                  go_meet
                  exact ⟨by rw [if_pos (show q = t by omega)], rfl⟩
                · have h : ¬ (q : Int) = t := by first | assumption | (simp at *; omega)
                  go_meet
                  exact ⟨by rw [if_neg (show ¬ q = t by omega)], rfl⟩
              case rest =>
                obtain ⟨rfl, hwx⟩ := hcut
                obtain rfl : wr = _ := hwx.symm
                obtain ⟨y, hy⟩ : ∃ y : Nat, (if q = t then s else q) = y := ⟨_, rfl⟩
                rw [hy]
                have HY := hid hy
                clear hy
                go_upto_if 102 with (fail)
                go_cut [14] (fun v wx => v = .int .i64 x ∧ wx = wr)
                case first =>
                  have hx := HP.out.2
                  go_wp2_with fail
                  · have h : (q : Int) = s := by first | assumption | (simp at *; omega)
                    go_meet
                    exact ⟨by rw [← hx, swapAt, if_pos (show q = s by omega)], rfl⟩
                  · have h : ¬ (q : Int) = s := by first | assumption | (simp at *; omega)
                    go_meet
                    exact ⟨by rw [← hx, swapAt, if_neg (show ¬ q = s by omega), HY.out], rfl⟩
                case rest =>
                  obtain ⟨rfl, hwx⟩ := hcut
                  obtain rfl : wr = _ := hwx.symm
                  clear HY
                  have hdr : ((swapD N t s).drop q).eraseIdx 0 = (swapD N t s).drop (q + 1) := by rw [List.eraseIdx_zero, List.tail_drop]
                  go_wp2_with fail
                  refine (takeL 0 _ _ hm HP.out.1).mono ?_
                  rintro e w7 ⟨F7, A7, c7, rfl, hm7, hF7, hx7, _, _, he7⟩
                  have hB7 := below_own hB he7 hB.size hG
                  have hG7 : ∀ j, F7 j → w.heap.size ≤ j := fun j hj => hG j (hF7 j hj)
                  rw [hdr] at hm7
                  clear hm hB hG hF7 he7 hdr HP
                  go_wp2_with fail
                  obtain ⟨w8, hw8⟩ : ∃ w8, w8 = w7.alloc (.cells #[.int .i64 x, .slice A7 1 c7] 31) := ⟨_, rfl⟩
                  have hb8 : Below w7.heap.size w7 w8 := by rw [hw8]; exact (Below.refl _ _).alloc (Nat.le_refl _) _
                  have hz8 : w8.heap.size = w7.heap.size + 1 := by rw [hw8]; simp
                  have hb9 : Below w8.heap.size w8 (w8.alloc (.cells #[.int .u8 x] 5)) := (Below.refl _ _).alloc (Nat.le_refl _) _
                  have hb79 := hb8.trans (hb9.mono hb8.size)
                  have hm9 := hm7.below hb79
                  have hB9 := hB7.trans (hb79.mono hB7.size)
                  have hx9 : It.here (w8.alloc (.cells #[.int .u8 x] 5)) ⟨x, A7, c7, [(x : Int)]⟩ := It.here.below hx7 hb79
                  have hy9 : It.here (w8.alloc (.cells #[.int .u8 x] 5)) ⟨x, some ⟨w7.heap.size + 1, 0, none⟩, 1, [(x : Int)]⟩ := here_lit w8 x [(x : Int)] 1 5 _ hz8
                  have hs := sameBytes_same A7 (some ⟨w7.heap.size + 1, 0, none⟩) c7 1 [(x : Int)] _ hx9 hy9 (by simp)
                  rw [← hw8]
                  clear hw8 hb8 hz8 hb9 hb79 hx9 hy9 hx7 hm7 hB7
                  refine hs.mono ?_
                  rintro e w' ⟨rfl, nq, rfl⟩
                  have hm10 := drewN_mail hm9 nq
                  have hB10 := below_drewN hB9 nq
                  clear hs hm9 hB9
                  go_wp2_with fail
                  go_roundw
                  case rel => unfold DropRel; exact ⟨q + 1, F7, by omega, by go_num, hm10, hG7, hB10⟩
                  case measure => simp [intOf]; omega
            · obtain rfl : N = q := by omega
              clear hlt
              have hdn : (swapD N t s).drop N = [] := List.drop_of_length_le (by rw [swapD_len]; exact Nat.le_refl _)
              rw [hdn] at hm
              clear hdn
              go_wp2_with fail
              refine (lenL _ hm).mono ?_
              rintro e w' ⟨rfl, rfl⟩
              go_wp2_with fail
              refine (swapNoL 0 0 _ hm (by simp)).mono ?_
              rintro e w' ⟨rfl, rfl⟩
              go_wp2_with fail
              go_ret
              exact ⟨rfl, hB⟩
end Go.Proofs.Ytnhfnklbeifbhaa
