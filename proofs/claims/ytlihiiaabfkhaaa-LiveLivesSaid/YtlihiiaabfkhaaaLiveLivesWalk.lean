/- LiveLives: the walk: whatever numbers come, the Go text returns true. -/
import Derived.Test.YtlihiiaabfkhaaaLiveFirst
import Derived.Test.YtlihiiaabfkhaaaLiveOne
namespace Go.Proofs.Ytlihiiaabfkhaaa
open Go.RowKit

/-- Behind k beats of car 4: the greatest life that came is its life; -1: none came. -/
def LivesInv (k : Nat) (o : One) (m : Int) : Prop := o.ok ∧ -1 ≤ m ∧ m < 9 ∧ ((k = 0 ∧ m = -1 ∧ o.known = false) ∨ (0 ≤ m ∧ o.known = true ∧ o.life = m))
def LivesRel (w : World) (n b : Nat) (m i : Value) (wr : World) : Prop :=
  ∃ (k : Nat) (o : One) (q : Int), k ≤ n ∧ i = .int .i64 k ∧ m = .int .i64 q ∧ LivesInv k o q ∧ Blk wr b (Tab.lone 4 o 0).cells 28 ∧ Below w.heap.size w wr

set_option maxRecDepth 100000 in
set_option maxHeartbeats 2000000 in
theorem liveLives_walk (A : Option Addr) (c : Nat) (xs : List Int) (w : World) (hx : Sl w A (xs.map (Value.int .i64))) (hxl : xs.length ≤ 9223372036854775807) :
    Calls Try.prog 5 #[.slice A xs.length c] w (SaysTrue w) := by
  have hz := zero_table
  by_cases hn : xs.length ≤ 20
  · go_enter Try.func5, Try.ntmps5
    go_wp2_with fail
    refine (first_any _).mono ?_
    rintro e w1 ⟨rfl, hB1⟩
    go_wp2_with fail
    obtain ⟨w2, hw2⟩ : ∃ w2, w2 = w1.alloc (.cells Tab.zero.cells.toArray 28) := ⟨_, rfl⟩
    have hT2 : Blk w2 w1.heap.size (Tab.lone 4 One.zero 0).cells 28 := by rw [hw2, ← lone_zero 4]; exact Blk.new w1 _ _
    have hB2 : Below w.heap.size w w2 := by rw [hw2]; exact hB1.alloc hB1.size _
    rw [← hw2]
    have hz1 := hB1.size
    generalize w1.heap.size = B at *
    clear hw2 hz hB1
    go_loopw [5, 6] (fun m i wr => LivesRel w xs.length B m i wr) (fun _ i _ => xs.length - (intOf i).toNat)
    case atStart => exact ⟨0, One.zero, -1, by omega, rfl, rfl, ⟨Tab.ok_zero.2 _ (by simp [Tab.zero]), by decide, by decide, .inl ⟨rfl, rfl, rfl⟩⟩, hT2, hB2⟩
    case round =>
      clear hT2 hB2
      obtain ⟨k, o, q, hk, rfl, rfl, ⟨hok, hq0, hq1, hkn⟩, hT, hBl⟩ := hrel
      by_cases hlt : k < xs.length
      · obtain ⟨b, of, rfl, hbw, hc⟩ := hx.at (by simp; omega)
        have hcell : wr.cell? ⟨b, of + k, none⟩ = some (.int .i64 (xs.getD k 0)) := by rw [hBl.cell (p := ⟨b, of + k, none⟩) hbw, hc k (by simpa using hlt), getD_int hlt]
        clear hc
        obtain ⟨x, ex⟩ : ∃ x, xs.getD k 0 = x := ⟨_, rfl⟩
        rw [ex] at hcell
        clear ex
        go_wp2_with fail
        refine (number_rng _ _ (by omega) (by omega) _).mono ?_
        rintro e w' ⟨n, hn0, hn1, rfl, rfl⟩
        obtain ⟨bo, hbo⟩ : ∃ bo : Bool, ((k : Int) % 3 == 0) = bo := ⟨_, rfl⟩
        by_cases hqn : q ≤ n
        · have hy : (Tab.lone 4 o 0).takes 4 n 0 = true := by
            rw [lone_takes (c := 4) (by decide) 4 rfl]
            rcases hkn with ⟨_, _, h⟩ | ⟨_, _, h⟩ <;> simp [h, hn0] <;> omega
          have HH := hid (lone_hear (c := 4) 4 rfl o 0 n 0 bo hy)
          have HY := hid hy
          have hinv : LivesInv (k + 1) ⟨true, true, bo, n, 0⟩ n := ⟨⟨by simp, by simp, by simp⟩, by omega, by omega, .inr ⟨hn0, rfl, rfl⟩⟩
          have HHAS := hid (lone_has (c := 4) (by decide) 4 rfl ⟨true, true, bo, n, 0⟩ 0)
          have HLIFE := hid (lone_life (c := 4) (by decide) 4 rfl ⟨true, true, bo, n, 0⟩ 0)
          clear hy hkn
          go_wp2_with fail
          refine (hear_yes (lone_ok hok) _ _ _ _ _ hT HY.out).mono ?_
          rintro e w4 ⟨rfl, hT4, he4⟩
          have hB4 := he4.below hBl hBl.size (fun i hi => by omega)
          rw [HH.out] at hT4
          have hlf := life_any (lone_ok (c := 4) (s := 0) hinv.1) 4 _ hT4
          rw [HHAS.out, HLIFE.out] at hlf
          have hmx : (if q < n then n else q) = n := by split <;> omega
          have h1 : decide (q ≤ n) = true := by simpa using hqn
          have h2 : (n != n) = false := by simp
          clear hT hBl he4 HH HY HHAS HLIFE
          go_wp2_with fail
          refine hlf.mono ?_
          rintro e w' ⟨rfl, rfl⟩
          clear hlf
          go_wp2
          go_roundw
          case rel => exact ⟨k + 1, _, n, by omega, by go_num, rfl, hinv, hT4, hB4⟩
          case measure => simp [intOf]; omega
        · have hy : (Tab.lone 4 o 0).takes 4 n 0 = false := by
            rw [lone_takes (c := 4) (by decide) 4 rfl]
            rcases hkn with ⟨_, h1, _⟩ | ⟨_, h1, h2⟩
            · omega
            · simp [h1, h2]
              omega
          have HY := hid hy
          have hinv : LivesInv (k + 1) o q := ⟨hok, hq0, hq1, by rcases hkn with ⟨_, h1, _⟩ | h1 <;> first | (exfalso; omega) | exact .inr h1⟩
          have hkn2 : o.known = true ∧ o.life = q := by rcases hkn with ⟨_, h1, _⟩ | ⟨_, h1, h2⟩ <;> first | (exfalso; omega) | exact ⟨h1, h2⟩
          have hlf := life_any (lone_ok (c := 4) (s := 0) hok) 4 _ hT
          rw [lone_has (c := 4) (by decide) 4 rfl o 0, lone_life (c := 4) (by decide) 4 rfl o 0, hkn2.1, hkn2.2, if_pos rfl] at hlf
          have hmx : (if q < n then n else q) = q := by split <;> omega
          have h1 : decide (q ≤ n) = false := by simpa using hqn
          have h2 : (q != q) = false := by simp
          clear hy hkn hkn2
          go_wp2_with fail
          refine (hear_no (lone_ok hok) _ _ _ _ _ hT HY.out).mono ?_
          rintro e w' ⟨rfl, rfl⟩
          go_wp2_with fail
          refine hlf.mono ?_
          rintro e w' ⟨rfl, rfl⟩
          clear hlf
          go_wp2
          go_roundw
          case rel => exact ⟨k + 1, _, q, by omega, by go_num, rfl, hinv, hT, hBl⟩
          case measure => simp [intOf]; omega
      · clear hkn hq0 hq1
        have hokT := lone_ok (c := 4) (s := 0) hok
        have hn5 : (Tab.lone 4 o 0).has 5 = false := by simp [Tab.has, lone_at_ne (c := 4) (i := 5) (by decide), One.zero]
        have hs0 : (Tab.lone 4 o 0).seen = 0 := rfl
        have hall := aliveTo_le (Tab.lone 4 o 0)
        have hy5 : (Tab.lone 4 o 0).tick.takes 5 1 77 = true := by
          rw [lone_tick]
          simp [Tab.takes, lone_at_ne (c := 4) (i := 5) (by decide), One.zero]
        have hs5 : ((Tab.lone 4 o 0).tick.hear 5 1 77 false).seen = 77 := by
          unfold Tab.hear
          rw [if_pos hy5]
          rfl
        have HN5 := hid hn5
        have HS0 := hid hs0
        have HY5 := hid hy5
        have HS5 := hid hs5
        generalize Tab.lone 4 o 0 = t at *
        clear hn5 hs0 hy5 hs5
        go_wp2_with fail
        refine (clone_any hokT _ hT).mono ?_
        rintro e w3 ⟨rfl, hC3, hbl3, hsz3⟩
        have hT3 := (Eff.of_below (S := fun _ => False) hbl3).blk hT (fun h => h)
        have hB3 := hBl.trans (hbl3.mono hBl.size)
        have hlt3 := hT.lt
        have hzr := hBl.size
        generalize wr.heap.size = C at *
        clear hT hBl hbl3
        go_wp2_with fail
        refine (alive_any hokT _ hT3).mono ?_
        rintro e w4 ⟨v, rfl, hrow, hbl4⟩
        have hT4 := (Eff.of_below (S := fun _ => False) hbl4).blk hT3 (fun h => h)
        have hC4 := (Eff.of_below (S := fun _ => False) hbl4).blk hC3 (fun h => h)
        have hB4 := hB3.trans (hbl4.mono hB3.size)
        have hz4 := hbl4.size
        clear hT3 hB3 hC3 hbl4
        go_wp2_with fail
        refine (tick_any hokT _ hC4).mono ?_
        rintro e w5 ⟨rfl, hC5, he5⟩
        have hT5 := he5.blk hT4 (by omega)
        have hB5 := he5.below hB4 hB4.size (fun i hi => by omega)
        have hrow5 := he5.row hrow (fun k hk he => by have := (hrow.lt k hk).1; omega)
        have hz5 := he5.size
        clear hT4 hC4 hB4 hrow he5
        go_wp2_with fail
        refine (hear_yes (Tab.tick_ok hokT) _ _ _ _ _ hC5 HY5.out).mono ?_
        rintro e w6 ⟨rfl, hC6, he6⟩
        have hT6 := he6.blk hT5 (by omega)
        have hB6 := he6.below hB5 hB5.size (fun i hi => by omega)
        have hrow6 := he6.row hrow5 (fun k hk he => by have := (hrow5.lt k hk).1; omega)
        have hok6 := Tab.hear_ok (Tab.tick_ok hokT) 5 1 77 false
        clear hT5 hC5 hB5 hrow5 he6
        go_wp2_with fail
        refine (life_any hokT _ _ hT6).mono ?_
        rintro e w' ⟨rfl, rfl⟩
        rw [HN5.out]
        go_wp2_with fail
        refine (seen_any hokT _ hT6).mono ?_
        rintro e w' ⟨rfl, rfl⟩
        rw [HS0.out]
        go_wp2_with fail
        refine (seen_any hok6 _ hC6).mono ?_
        rintro e w' ⟨rfl, rfl⟩
        rw [HS5.out]
        go_wp2_with fail
        refine (alive_any hokT _ hT6).mono ?_
        rintro e w7 ⟨v7, rfl, hrow7, hbl7⟩
        have hown8 := (Eff.of_below (S := fun _ => False) hbl7).row hrow6 (fun _ _ h => h)
        obtain ⟨A1, c1, rfl, hs1, _⟩ := row_open hrow7
        obtain ⟨A2, c2, rfl, hs2, _⟩ := row_open hown8
        have hB7 := hB6.trans (hbl7.mono hB6.size)
        clear hrow7 hown8 hbl7 hB6 hrow6 hT6 hC6
        generalize t.alive = al at *
        go_wp2_with fail
        refine (sameInts_any A1 A2 c1 c2 al al _ hs1 hs2 (by unfold maxLen; omega) (by unfold maxLen; omega)).mono ?_
        rintro e w' ⟨rfl, nq, rfl⟩
        have hd : decide (al = al) = true := by simp
        rw [hd]
        clear hd
        go_wp2
        go_ret
        exact ⟨rfl, below_drewN hB7 _⟩
  · go_enter Try.func5, Try.ntmps5
    go_wp2_with fail
    refine (first_any _).mono ?_
    rintro e w1 ⟨rfl, hB1⟩
    go_wp2_with fail
    go_ret
    exact ⟨rfl, hB1⟩
end Go.Proofs.Ytlihiiaabfkhaaa
