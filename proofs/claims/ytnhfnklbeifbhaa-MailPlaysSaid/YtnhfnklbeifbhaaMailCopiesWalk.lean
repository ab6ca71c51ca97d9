/- MailCopies: the walk. -/
import Derived.Test.YtnhfnklbeifbhaaMailFirst
namespace Go.Proofs.Ytnhfnklbeifbhaa
open Go.RowKit
set_option linter.unusedSimpArgs false

/-- The first n frames that are put. -/
def putD (n : Nat) : List (Int × List Int) := (List.range n).map fun i : Nat => ((i : Int), [(i : Int), 7])
theorem putD_succ (n : Nat) : putD (n + 1) = putD n ++ [((n : Int), [(n : Int), 7])] := by simp [putD, List.range_succ]
theorem putD_len (n : Nat) : (putD n).length = n := by simp [putD]
theorem putD_get {n t : Nat} (h : t < n) (l : List (Int × List Int)) : (putD n ++ l)[t]? = some ((t : Int), [(t : Int), 7]) := by
  rw [List.getElem?_append_left (by rw [putD_len]; exact h)]
  simp [putD, h]
theorem rep_succ {α : Type} (l : List α) (j : Nat) (p : α) : l ++ List.replicate (j + 1) p = (l ++ List.replicate j p) ++ [p] := by
  rw [List.replicate_succ', List.append_assoc]
theorem erase_len {n t j : Nat} (h : t < n) (p : Int × List Int) : ((putD n ++ List.replicate j p).eraseIdx t).length = n - 1 + j := by
  rw [List.length_eraseIdx_of_lt (by simp [putD_len]; omega)]
  simp [putD_len]
  omega
theorem erase_drop {n t j : Nat} (h : t < n) (p : Int × List Int) : ((putD n ++ List.replicate j p).eraseIdx t).drop (n - 1) = List.replicate j p := by
  rw [List.eraseIdx_append_of_lt_length (by rw [putD_len]; exact h), List.drop_append_of_le_length (by rw [List.length_eraseIdx_of_lt (by rw [putD_len]; exact h), putD_len]; exact Nat.le_refl _),
    List.drop_of_length_le (by rw [List.length_eraseIdx_of_lt (by rw [putD_len]; exact h), putD_len]; exact Nat.le_refl _)]
  rfl

def PutRel (W : World) (b n : Nat) (i : Value) (wr : World) : Prop := ∃ (k : Nat) (F : Nat → Prop), k ≤ n ∧ i = .int .i64 k ∧ MailL wr b F (putD k) 0 ∧ (∀ j, F j → W.heap.size ≤ j) ∧ Below W.heap.size W wr
def CopyRel (W : World) (b n m : Nat) (p : Int × List Int) (i : Value) (wr : World) : Prop := ∃ (k : Nat) (F : Nat → Prop), k ≤ m ∧ i = .int .i64 k ∧ MailL wr b F (putD n ++ List.replicate k p) 0 ∧ (∀ j, F j → W.heap.size ≤ j) ∧ Below W.heap.size W wr
def DropRel (W : World) (b n : Nat) (D : List (Int × List Int)) (i : Value) (wr : World) : Prop := ∃ (k : Nat) (F : Nat → Prop), k ≤ n ∧ i = .int .i64 k ∧ MailL wr b F (D.drop k) 0 ∧ (∀ j, F j → W.heap.size ≤ j) ∧ Below W.heap.size W wr
def RestRel (W : World) (b m : Nat) (p : Int × List Int) (i : Value) (wr : World) : Prop := ∃ (k : Nat) (F : Nat → Prop), k ≤ m ∧ i = .int .i64 k ∧ MailL wr b F (List.replicate (m - k) p) 0 ∧ (∀ j, F j → W.heap.size ≤ j) ∧ Below W.heap.size W wr
attribute [irreducible] PutRel CopyRel DropRel RestRel

theorem newF {F F' : Nat → Prop} {B : Nat} {w : World} (hF : ∀ k, F' k → F k ∨ w.heap.size ≤ k) (h : ∀ j, F j → B ≤ j) (hB : B ≤ w.heap.size) : ∀ j, F' j → B ≤ j := fun j hj => by
  rcases hF j hj with h1 | h1
  · exact h j h1
  · omega

set_option maxRecDepth 100000 in
set_option maxHeartbeats 8000000 in
theorem mailCopies_walk (a0 a1 a2 : Int) (w : World) : Calls Try.prog 3 #[.int .i64 a0, .int .i64 a1, .int .i64 a2] w (SaysTrue w) := by
  have hz := zero_mail
  have hz2 := zero_item
  go_enter Try.func3, Try.ntmps3
  go_wp2_with fail
  refine (first_any _).mono ?_
  rintro e w1 ⟨rfl, hB1⟩
  go_wp2_with fail
  refine (number_any a0 20 (by omega) (by omega) _).mono ?_
  rintro e w' ⟨rfl, rfl⟩
  obtain ⟨n, hn, hn1⟩ : ∃ n : Nat, a0 % 20 = n ∧ n < 20 := ⟨(a0 % 20).toNat, by omega, by omega⟩
  rw [hn]
  clear hn
  go_wp2_with fail
  obtain ⟨N, hN, hN1, hN2⟩ : ∃ N : Nat, ((n : Int) + 1 = (N : Int)) ∧ 1 ≤ N ∧ N ≤ 20 := ⟨n + 1, by omega, by omega, by omega⟩
  rw [hN]
  clear hN
  refine (number_any a1 (N : Int) (by omega) (by omega) _).mono ?_
  rintro e w' ⟨rfl, rfl⟩
  obtain ⟨t, ht, ht1⟩ : ∃ t : Nat, a1 % (N : Int) = t ∧ t < N := ⟨(a1 % (N : Int)).toNat, by have := Int.emod_nonneg a1 (show (N : Int) ≠ 0 by omega); omega, by have := Int.emod_lt_of_pos a1 (show 0 < (N : Int) by omega); omega⟩
  rw [ht]
  clear ht
  go_wp2_with fail
  refine (number_any a2 9 (by omega) (by omega) _).mono ?_
  rintro e w' ⟨rfl, rfl⟩
  obtain ⟨m, hm, hm1⟩ : ∃ m : Nat, a2 % 9 = m ∧ m < 9 := ⟨(a2 % 9).toNat, by omega, by omega⟩
  rw [hm]
  clear hm
  go_wp2_with fail
  obtain ⟨w2, hw2⟩ : ∃ w2, w2 = w1.alloc (.cells #[.slice none 0 0, .int .i64 0] 26) := ⟨_, rfl⟩
  have hm2 : MailL w2 w1.heap.size (· = w1.heap.size) [] 0 := MailL.new (by rw [hw2]; exact Blk.new w1 _ _)
  have hB2 : Below w.heap.size w w2 := by rw [hw2]; exact hB1.alloc hB1.size _
  rw [← hw2]
  have hG2 : ∀ j, j = w1.heap.size → w.heap.size ≤ j := fun j hj => by rw [hj]; exact hB1.size
  clear hw2 hB1
  generalize w1.heap.size = b at *
  go_loopw [9] (fun i wr => PutRel w b N i wr) (fun i _ => N - (intOf i).toNat)
  case atStart => unfold PutRel; exact ⟨0, _, by omega, rfl, hm2, hG2, hB2⟩
  case round =>
    clear hm2 hG2 hB2
    unfold PutRel at hrel
    obtain ⟨k, F, hk, rfl, hm, hG, hB⟩ := hrel
    by_cases hlt : k < N
    · go_wp2_with fail
      have hb3 : Below wr.heap.size wr (wr.alloc (.cells #[.int .u8 (k : Int), .int .u8 7] 5)) := (Below.refl _ _).alloc (Nat.le_refl _) _
      have hm3 := hm.below hb3
      have hB3 := hB.trans (hb3.mono hB.size)
      have hp := putL ⟨k, some ⟨wr.heap.size, 0, none⟩, 2, [(k : Int), 7]⟩ _ hm3 (here_lit wr k [(k : Int), 7] 2 5 _ rfl) (by rw [putD_len]; omega) (by simp)
      refine hp.mono ?_
      rintro e w4 ⟨F4, rfl, hm4, hF4, he4⟩
      have hB4 := below_own hB3 he4 hB3.size hG
      have hG4 := newF hF4 hG hB3.size
      have hm4' : MailL w4 b F4 (putD (k + 1)) 0 := by rw [putD_succ]; exact hm4
      clear hp hm3 hm hm4 hB hb3 hB3 hG hF4 he4
      go_wp2_with fail
      go_roundw
      case rel => unfold PutRel; exact ⟨k + 1, F4, by omega, by go_num, hm4', hG4, hB4⟩
      case measure => simp [intOf]; omega
    · obtain rfl : N = k := by omega
      clear hlt
      go_wp2_with fail
      go_loopw [10] (fun i wr => CopyRel w b N m ((t : Int), [(t : Int), 7]) i wr) (fun i _ => m - (intOf i).toNat)
      case atStart => unfold CopyRel; exact ⟨0, F, by omega, rfl, by simpa using hm, hG, hB⟩
      case round =>
        clear hm hG hB
        unfold CopyRel at hrel
        obtain ⟨k, F, hk, rfl, hm, hG, hB⟩ := hrel
        by_cases hlt : k < m
        · go_wp2_with fail
          refine (copyL t ((t : Int), [(t : Int), 7]) _ hm (putD_get ht1 _) (by simp [putD_len]; omega) (by simp)).mono ?_
          rintro e w4 ⟨F4, rfl, hm4, hF4, he4⟩
          have hB4 := below_own hB he4 hB.size hG
          have hG4 := newF hF4 hG hB.size
          rw [← rep_succ] at hm4
          clear hm hB hG hF4 he4
          go_wp2_with fail
          go_roundw
          case rel => unfold CopyRel; exact ⟨k + 1, F4, by omega, by go_num, hm4, hG4, hB4⟩
          case measure => simp [intOf]; omega
        · obtain rfl : m = k := by omega
          clear hlt
          go_wp2_with fail
          refine (takeL t ((t : Int), [(t : Int), 7]) _ hm (putD_get ht1 _)).mono ?_
          rintro e w4 ⟨F4, A, cx, rfl, hm4, hF4, hx4, hfr4, hxo, he4⟩
          have hB4 := below_own hB he4 hB.size hG
          have hG4 : ∀ j, F4 j → w.heap.size ≤ j := fun j hj => hG j (hF4 j hj)
          have hdl := erase_len (j := m) ht1 ((t : Int), [(t : Int), 7])
          have hdr := erase_drop (j := m) ht1 ((t : Int), [(t : Int), 7])
          obtain ⟨bx, ox, rfl, hbx, hcx⟩ := hx4.at (by simp)
          have hx0 : w4.cell? ⟨bx, ox, none⟩ = some (.int .u8 t) := hcx 0 (by simp)
          have hxf : w4.frozen? ⟨bx, ox, none⟩ = false := hfr4 _ rfl ox
          have hxF := (hxo _ rfl)
          have hxW := hG _ hxF.2.2
          generalize (putD N ++ List.replicate m ((t : Int), [(t : Int), 7])).eraseIdx t = D at *
          have HD := hid (And.intro hdl hdr)
          clear hm hB hG hF4 he4 hx4 hfr4 hxo hcx hdl hdr
          go_wp2_with fail
          obtain ⟨w5, hw5⟩ : ∃ w5, w5 = w4.alloc (.cells #[.int .i64 t, .slice (some ⟨bx, ox, none⟩) 2 cx] 31) := ⟨_, rfl⟩
          have hb5 : Below w4.heap.size w4 w5 := by rw [hw5]; exact (Below.refl _ _).alloc (Nat.le_refl _) _
          have hX5 : Blk w5 w4.heap.size [.int .i64 t, .slice (some ⟨bx, ox, none⟩) 2 cx] 31 := by rw [hw5]; exact Blk.new w4 _ _
          rw [← hw5]
          have hm5 := hm4.below hb5
          have hB5 := hB4.trans (hb5.mono hB4.size)
          have y0 : w5.cell? ⟨w4.heap.size, 0, none⟩ = some (.int .i64 t) := hX5.cell 0
          have y1 : w5.cell? ⟨w4.heap.size, 1, none⟩ = some (.slice (some ⟨bx, ox, none⟩) 2 cx) := hX5.cell 1
          have hx5 : w5.cell? ⟨bx, ox, none⟩ = some (.int .u8 t) := (hb5.cell (p := ⟨bx, ox, none⟩) hbx).trans hx0
          have hf5 : w5.frozen? ⟨bx, ox, none⟩ = false := (hb5.frozen (p := ⟨bx, ox, none⟩) hbx).trans hxf
          have he6 : Eff (· = bx) w5 (w5.setCell ⟨bx, ox, none⟩ (.int .u8 99)) := (Eff.one bx w5).set _ _
          have hm6 := hm5.eff he6 (fun j hj h => hxF.2.1 (by rw [h] at hj; exact hj))
          have hB6 := below_own hB5 he6 hB5.size (fun j hj => by rw [hj]; exact hxW)
          have HM6 := hid (And.intro hm6 hB6)
          clear hw5 hb5 hX5 hm4 hB4 hx0 hxf he6 hm6 hB6 hB5
          go_wp2_with fail
          refine (lenL _ hm5).mono ?_
          rintro e w' ⟨rfl, rfl⟩
          rw [HD.out.1]
          have hcast : ((N - 1 + m : Nat) : Int) = (N : Int) - 1 + m := by omega
          rw [hcast]
          clear hcast hm5
          go_wp2_with fail
          go_loopw [13] (fun i wr => DropRel w b (N - 1) D i wr) (fun i _ => N - 1 - (intOf i).toNat)
          case atStart => unfold DropRel; exact ⟨0, F4, by omega, rfl, HM6.out.1, hG4, HM6.out.2⟩
          case round =>
            clear HM6 hG4 y0 y1 hx5 hf5 hxF
            unfold DropRel at hrel
            obtain ⟨j, F, hj, rfl, hm, hG, hB⟩ := hrel
            by_cases hlt : j < N - 1
            · obtain ⟨p, hp⟩ : ∃ p, D[j]? = some p := ⟨D[j]'(by rw [HD.out.1]; omega), List.getElem?_eq_getElem _⟩
              have hp0 : (D.drop j)[0]? = some p := by rw [List.getElem?_drop]; exact hp
              have HP := hid hp0
              clear hp hp0
              have hlt' : (j : Int) < (N : Int) - 1 := by omega
              go_wp2_with fail
              refine (takeL 0 p _ hm HP.out).mono ?_
              rintro e w7 ⟨F7, A7, c7, rfl, hm7, hF7, _, _, _, he7⟩
              have hB7 := below_own hB he7 hB.size hG
              have hG7 : ∀ j, F7 j → w.heap.size ≤ j := fun j hj => hG j (hF7 j hj)
              have hm7' : MailL w7 b F7 (D.drop (j + 1)) 0 := by
                have : (D.drop j).eraseIdx 0 = D.drop (j + 1) := by rw [List.eraseIdx_zero, List.tail_drop]
                rw [← this]; exact hm7
              clear hm hB hG hF7 he7 hm7
              go_wp2_with fail
              go_roundw
              case rel => unfold DropRel; exact ⟨j + 1, F7, by omega, by go_num, hm7', hG7, hB7⟩
              case measure => simp [intOf]; omega
            · have hje : j = N - 1 := by omega
              rw [hje, HD.out.2] at hm
              have hge : ¬ (j : Int) < (N : Int) - 1 := by omega
              clear hje hlt
              go_wp2_with fail
              go_loopw [14] (fun i wr => RestRel w b m ((t : Int), [(t : Int), 7]) i wr) (fun i _ => m - (intOf i).toNat)
              case atStart => unfold RestRel; exact ⟨0, F, by omega, rfl, hm, hG, hB⟩
              case round =>
                clear hm hG hB
                unfold RestRel at hrel
                obtain ⟨q, F, hq, rfl, hm, hG, hB⟩ := hrel
                by_cases hlt : q < m
                · have hp0 : (List.replicate (m - q) ((t : Int), [(t : Int), 7]))[0]? = some ((t : Int), [(t : Int), 7]) := by
                    rw [List.getElem?_replicate, if_pos (by omega)]
                  have HP := hid hp0
                  clear hp0
                  go_wp2_with fail
                  refine (takeL 0 _ _ hm HP.out).mono ?_
                  rintro e w7 ⟨F7, A7, c7, rfl, hm7, hF7, hx7, _, _, he7⟩
                  have hB7 := below_own hB he7 hB.size hG
                  have hG7 : ∀ j, F7 j → w.heap.size ≤ j := fun j hj => hG j (hF7 j hj)
                  have hm7' : MailL w7 b F7 (List.replicate (m - (q + 1)) ((t : Int), [(t : Int), 7])) 0 := by
                    have : (List.replicate (m - q) ((t : Int), [(t : Int), 7])).eraseIdx 0 = List.replicate (m - (q + 1)) ((t : Int), [(t : Int), 7]) := by
                      rw [List.eraseIdx_zero, List.tail_replicate]; congr 1
                    rw [← this]; exact hm7
                  clear hm hB hG hF7 he7 hm7
                  go_wp2_with fail
                  obtain ⟨w8, hw8⟩ : ∃ w8, w8 = w7.alloc (.cells #[.int .i64 t, .slice A7 2 c7] 31) := ⟨_, rfl⟩
                  have hb8 : Below w7.heap.size w7 w8 := by rw [hw8]; exact (Below.refl _ _).alloc (Nat.le_refl _) _
                  have hz8 : w8.heap.size = w7.heap.size + 1 := by rw [hw8]; simp
                  have hb9 : Below w8.heap.size w8 (w8.alloc (.cells #[.int .u8 t, .int .u8 7] 5)) := (Below.refl _ _).alloc (Nat.le_refl _) _
                  have hb79 := hb8.trans (hb9.mono hb8.size)
                  have hm9 := hm7'.below hb79
                  have hB9 := hB7.trans (hb79.mono hB7.size)
                  have hx9 : It.here (w8.alloc (.cells #[.int .u8 t, .int .u8 7] 5)) ⟨t, A7, c7, [(t : Int), 7]⟩ := It.here.below hx7 hb79
                  have hy9 : It.here (w8.alloc (.cells #[.int .u8 t, .int .u8 7] 5)) ⟨t, some ⟨w7.heap.size + 1, 0, none⟩, 2, [(t : Int), 7]⟩ := here_lit w8 t [(t : Int), 7] 2 5 _ hz8
                  have hs := sameBytes_same A7 (some ⟨w7.heap.size + 1, 0, none⟩) c7 2 [(t : Int), 7] _ hx9 hy9 (by simp)
                  rw [← hw8]
                  clear hw8 hb8 hz8 hb9 hb79 hx9 hy9 hx7 hm7' hB7
                  refine hs.mono ?_
                  rintro e w' ⟨rfl, nq, rfl⟩
                  have hm10 : MailL ((w8.alloc (.cells #[.int .u8 t, .int .u8 7] 5)).drewN nq) b F7 (List.replicate (m - (q + 1)) ((t : Int), [(t : Int), 7])) 0 := by
                    obtain ⟨v9, its9, h9, r9⟩ := hm9
                    exact ⟨v9, its9, ⟨h9.blk, h9.row, h9.nb, h9.here, h9.off, h9.old, h9.free⟩, r9⟩
                  have hB10 := below_drewN hB9 nq
                  clear hs hm9 hB9
                  go_wp2_with fail
                  go_roundw
                  case rel => unfold RestRel; exact ⟨q + 1, F7, by omega, by go_num, hm10, hG7, hB10⟩
                  case measure => simp [intOf]; omega
                · obtain rfl : m = q := by omega
                  clear hlt
                  rw [Nat.sub_self] at hm
                  go_wp2_with fail
                  refine (lenL _ hm).mono ?_
                  rintro e w' ⟨rfl, rfl⟩
                  go_wp2_with fail
                  refine (lostIsL _ hm).mono ?_
                  rintro e w' ⟨rfl, rfl⟩
                  go_wp2_with fail
                  go_ret
                  exact ⟨rfl, hB⟩
end Go.Proofs.Ytnhfnklbeifbhaa
