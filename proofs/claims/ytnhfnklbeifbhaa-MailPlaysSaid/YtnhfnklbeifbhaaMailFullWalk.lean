/- MailFull: the walk. -/
import Derived.Test.YtnhfnklbeifbhaaMailCopiesWalk
namespace Go.Proofs.Ytnhfnklbeifbhaa
open Go.RowKit
set_option linter.unusedSimpArgs false

def fullD (n : Nat) : List (Int × List Int) := (List.range n).map fun i : Nat => ((i : Int), [(i : Int) % 256])
theorem fullD_succ (n : Nat) : fullD (n + 1) = fullD n ++ [((n : Int), [(n : Int) % 256])] := by simp [fullD, List.range_succ]
theorem fullD_len (n : Nat) : (fullD n).length = n := by simp [fullD]
theorem fullD_get {n t : Nat} (h : t < n) : (fullD n)[t]? = some ((t : Int), [(t : Int) % 256]) := by simp [fullD, h]

def FullRel (W : World) (b bb n : Nat) (i : Value) (wr : World) : Prop :=
  ∃ (k : Nat) (F : Nat → Prop) (x : Int), k ≤ n ∧ i = .int .i64 k ∧ MailL wr b F (fullD (min k 4096)) ((k : Int) - (min k 4096 : Nat)) ∧ Blk wr bb [.int .u8 x] 5 ∧ ¬ F bb ∧ W.heap.size ≤ bb ∧ (∀ j, F j → W.heap.size ≤ j) ∧ Below W.heap.size W wr
attribute [irreducible] FullRel
theorem drewN_mail {w : World} {b : Nat} {F : Nat → Prop} {D : List (Int × List Int)} {lost : Int} (h : MailL w b F D lost) (n : Nat) : MailL (w.drewN n) b F D lost := by
  obtain ⟨v9, its9, h9, r9⟩ := h
  exact ⟨v9, its9, ⟨h9.blk, h9.row, h9.nb, h9.here, h9.off, h9.old, h9.free⟩, r9⟩

set_option maxRecDepth 100000 in
set_option maxHeartbeats 8000000 in
theorem mailFull_walk (a0 a1 : Int) (w : World) : Calls Try.prog 4 #[.int .i64 a0, .int .i64 a1] w (SaysTrue w) := by
  have hz := zero_mail
  have hz2 := zero_item
  go_enter Try.func4, Try.ntmps4
  go_wp2_with fail
  refine (first_any _).mono ?_
  rintro e w1 ⟨rfl, hB1⟩
  go_wp2_with fail
  refine (number_any a0 5000 (by omega) (by omega) _).mono ?_
  rintro e w' ⟨rfl, rfl⟩
  obtain ⟨n, hn, hn1⟩ : ∃ n : Nat, a0 % 5000 = n ∧ n < 5000 := ⟨(a0 % 5000).toNat, by omega, by omega⟩
  rw [hn]
  clear hn
  go_wp2_with fail
  obtain ⟨N, hN, hN1, hN2⟩ : ∃ N : Nat, ((n : Int) + 1 = (N : Int)) ∧ 1 ≤ N ∧ N ≤ 5000 := ⟨n + 1, by omega, by omega, by omega⟩
  rw [hN]
  clear hN
  obtain ⟨w2, hw2⟩ : ∃ w2, w2 = w1.alloc (.cells #[.slice none 0 0, .int .i64 0] 26) := ⟨_, rfl⟩
  have hz2' : w2.heap.size = w1.heap.size + 1 := by rw [hw2]; simp
  have hm2 : MailL w2 w1.heap.size (· = w1.heap.size) [] 0 := MailL.new (by rw [hw2]; exact Blk.new w1 _ _)
  have hB2 : Below w.heap.size w w2 := by rw [hw2]; exact hB1.alloc hB1.size _
  rw [← hw2]
  obtain ⟨w3, hw3⟩ : ∃ w3, w3 = w2.alloc (.cells #[.int .u8 1] 5) := ⟨_, rfl⟩
  have hb3 : Below w2.heap.size w2 w3 := by rw [hw3]; exact (Below.refl _ _).alloc (Nat.le_refl _) _
  have hbb3 : Blk w3 (w1.heap.size + 1) [.int .u8 1] 5 := by rw [hw3, ← hz2']; exact Blk.new w2 _ _
  rw [← hw3]
  have hm3 := hm2.below hb3
  have hB3 := hB2.trans (hb3.mono hB2.size)
  have hG3 : ∀ j, j = w1.heap.size → w.heap.size ≤ j := fun j hj => by rw [hj]; exact hB1.size
  have hbW : w.heap.size ≤ w1.heap.size + 1 := by have := hB1.size; omega
  have hnb : ¬ (w1.heap.size + 1 = w1.heap.size) := by omega
  clear hw2 hw3 hB1 hm2 hB2 hb3 hz2'
  generalize w1.heap.size = b at *
  go_loopw [8] (fun i wr => FullRel w b (b + 1) N i wr) (fun i _ => N - (intOf i).toNat)
  case atStart => unfold FullRel; exact ⟨0, _, 1, by omega, rfl, by simpa [fullD] using hm3, hbb3, hnb, hbW, hG3, hB3⟩
  case round =>
    clear hm3 hbb3 hnb hbW hG3 hB3
    unfold FullRel at hrel
    obtain ⟨k, F, x, hk, rfl, hm, hbb, hnF, hbW, hG, hB⟩ := hrel
    by_cases hlt : k < N
    · have c0 : wr.cell? ⟨b + 1, 0, none⟩ = some (.int .u8 x) := hbb.cell 0
      have cf : wr.frozen? ⟨b + 1, 0, none⟩ = false := hbb.frozen 0
      go_wp2_with fail
      have he3 : Eff (· = b + 1) wr (wr.setCell ⟨b + 1, 0, none⟩ (.int .u8 ((k : Int) % 256))) := (Eff.one (b + 1) wr).set 0 _
      have hm3 := hm.eff he3 (fun j hj h => hnF (by rw [h] at hj; exact hj))
      have hB3 := below_own hB he3 hB.size (fun j hj => by rw [hj]; exact hbW)
      have hbb3 : Blk (wr.setCell ⟨b + 1, 0, none⟩ (.int .u8 ((k : Int) % 256))) (b + 1) [.int .u8 ((k : Int) % 256)] 5 := hbb.set 0 _
      have hh : It.here (wr.setCell ⟨b + 1, 0, none⟩ (.int .u8 ((k : Int) % 256))) ⟨k, some ⟨b + 1, 0, none⟩, 1, [(k : Int) % 256]⟩ := .inr ⟨b + 1, 0, rfl, hbb3.lt, fun q _ => by rw [Nat.zero_add]; exact hbb3.cell q⟩
      have hlb := hbb3.lt
      clear hm hbb hB he3 c0 cf
      generalize wr.setCell ⟨b + 1, 0, none⟩ (.int .u8 ((k : Int) % 256)) = w4 at *
      by_cases h4 : k < 4096
      · have hmk : min k 4096 = k := by omega
        have hmk2 : min (k + 1) 4096 = k + 1 := by omega
        rw [hmk, Int.sub_self] at hm3
        have h4' : (k : Int) < 4096 := by omega
        have hp := putL ⟨k, some ⟨b + 1, 0, none⟩, 1, [(k : Int) % 256]⟩ _ hm3 hh (by rw [fullD_len]; exact h4) (by simp)
        have HK := hid hmk2
        clear hmk hmk2 hh
        refine hp.mono ?_
        rintro e w5 ⟨F5, rfl, hm5, hF5, he5⟩
        have hB5 := below_own hB3 he5 hB3.size hG
        have hG5 := newF hF5 hG hB3.size
        have hbb5 := he5.blk hbb3 hnF
        have hnF5 : ¬ F5 (b + 1) := fun h => by
          rcases hF5 _ h with h | h
          · exact hnF h
          · omega
        have hm5' : MailL w5 b F5 (fullD (min (k + 1) 4096)) (((k + 1 : Nat) : Int) - (min (k + 1) 4096 : Nat)) := by
          rw [HK.out, Int.sub_self, fullD_succ]; exact hm5
        clear hp hm3 hbb3 hnF hG hB3 hF5 he5 hm5
        go_wp2_with fail
        go_roundw
        case rel => unfold FullRel; exact ⟨k + 1, F5, _, by omega, by go_num, hm5', hbb5, hnF5, hbW, hG5, hB5⟩
        case measure => simp [intOf]; omega
      · have hmk : min k 4096 = 4096 := by omega
        have hmk2 : min (k + 1) 4096 = 4096 := by omega
        rw [hmk] at hm3
        have h4' : ¬ (k : Int) < 4096 := by omega
        have hp := lostL (k : Int) (some ⟨b + 1, 0, none⟩) 1 1 _ hm3 (by rw [fullD_len]; omega) (by omega)
        have HK := hid hmk2
        clear hmk hmk2 hh
        refine hp.mono ?_
        rintro e w5 ⟨rfl, hm5, he5⟩
        have hB5 := below_own hB3 he5 hB3.size hG
        have hbb5 := he5.blk hbb3 hnF
        have hm5' : MailL w5 b F (fullD (min (k + 1) 4096)) (((k + 1 : Nat) : Int) - (min (k + 1) 4096 : Nat)) := by
          rw [HK.out, show ((k + 1 : Nat) : Int) - ((4096 : Nat) : Int) = (k : Int) - ((4096 : Nat) : Int) + 1 from by omega]; exact hm5
        clear hp hm3 hbb3 hB3 he5 hm5
        go_wp2_with fail
        go_roundw
        case rel => unfold FullRel; exact ⟨k + 1, F, _, by omega, by go_num, hm5', hbb5, hnF, hbW, hG, hB5⟩
        case measure => simp [intOf]; omega
    · obtain rfl : N = k := by omega
      clear hlt hbb hnF hbW
      go_upto_region 13 with (fail)
      go_cut [9] (fun v wx => v = .int .i64 ((min N 4096 : Nat) : Int) ∧ MailL wx b F (fullD (min N 4096)) ((N : Int) - (min N 4096 : Nat)) ∧ Below w.heap.size w wx)
      case first =>
        go_wp2_with fail
        · have h : (4096 : Int) < N := by assumption
          go_meet
          exact ⟨by rw [show min N 4096 = 4096 from by omega]; rfl, hm, hB⟩
        · have h : (N : Int) ≤ 4096 := by assumption
          go_meet
          exact ⟨by rw [show min N 4096 = N from by omega], hm, hB⟩
      case rest =>
        clear hm hB
        obtain ⟨rfl, hm, hB⟩ := hcut
        have hK1 : 1 ≤ min N 4096 := by omega
        have hK2 : min N 4096 ≤ 4096 := by omega
        have hK3 : min N 4096 ≤ N := by omega
        generalize min N 4096 = K at *
        go_wp2_with fail
        refine (number_any a1 (K : Int) (by omega) (by omega) _).mono ?_
        rintro e w' ⟨rfl, rfl⟩
        obtain ⟨t, ht, ht1⟩ : ∃ t : Nat, a1 % (K : Int) = t ∧ t < K := ⟨(a1 % (K : Int)).toNat, by have := Int.emod_nonneg a1 (show (K : Int) ≠ 0 by omega); omega, by have := Int.emod_lt_of_pos a1 (show 0 < (K : Int) by omega); omega⟩
        rw [ht]
        clear ht
        go_wp2_with fail
        refine (lenL _ hm).mono ?_
        rintro e w' ⟨rfl, rfl⟩
        rw [fullD_len]
        go_wp2_with fail
        refine (lostIsL _ hm).mono ?_
        rintro e w' ⟨rfl, rfl⟩
        go_wp2_with fail
        refine (takeL t _ _ hm (fullD_get ht1)).mono ?_
        rintro e w5 ⟨F5, A, cx, rfl, hm5, hF5, hx5, _, _, he5⟩
        have hB5 := below_own hB he5 hB.size hG
        have hG5 : ∀ j, F5 j → w.heap.size ≤ j := fun j hj => hG j (hF5 j hj)
        have hdl : ((fullD K).eraseIdx t).length = K - 1 := by rw [List.length_eraseIdx_of_lt (by rw [fullD_len]; exact ht1), fullD_len]
        generalize (fullD K).eraseIdx t = D at *
        have HD := hid hdl
        clear hm hB hG hF5 he5 hdl
        go_wp2_with fail
        obtain ⟨w6, hw6⟩ : ∃ w6, w6 = w5.alloc (.cells #[.int .i64 t, .slice A 1 cx] 31) := ⟨_, rfl⟩
        have hb6 : Below w5.heap.size w5 w6 := by rw [hw6]; exact (Below.refl _ _).alloc (Nat.le_refl _) _
        have hz6 : w6.heap.size = w5.heap.size + 1 := by rw [hw6]; simp
        have hb7 : Below w6.heap.size w6 (w6.alloc (.cells #[.int .u8 ((t : Int) % 256)] 5)) := (Below.refl _ _).alloc (Nat.le_refl _) _
        have hb57 := hb6.trans (hb7.mono hb6.size)
        have hm7 := hm5.below hb57
        have hB7 := hB5.trans (hb57.mono hB5.size)
        have hx7 : It.here (w6.alloc (.cells #[.int .u8 ((t : Int) % 256)] 5)) ⟨t, A, cx, [(t : Int) % 256]⟩ := It.here.below hx5 hb57
        have hy7 : It.here (w6.alloc (.cells #[.int .u8 ((t : Int) % 256)] 5)) ⟨t, some ⟨w5.heap.size + 1, 0, none⟩, 1, [(t : Int) % 256]⟩ := here_lit w6 t [(t : Int) % 256] 1 5 _ hz6
        have hs := sameBytes_same A (some ⟨w5.heap.size + 1, 0, none⟩) cx 1 [(t : Int) % 256] _ hx7 hy7 (by simp)
        rw [← hw6]
        clear hw6 hb6 hz6 hb7 hb57 hx7 hy7 hx5 hm5 hB5
        refine hs.mono ?_
        rintro e w' ⟨rfl, nq, rfl⟩
        have hm8 := drewN_mail hm7 nq
        have hB8 := below_drewN hB7 nq
        clear hs hm7 hB7
        generalize (w6.alloc (.cells #[.int .u8 ((t : Int) % 256)] 5)).drewN nq = w8 at *
        go_wp2_with fail
        refine (lenL _ hm8).mono ?_
        rintro e w' ⟨rfl, rfl⟩
        rw [HD.out]
        have hcast : ((K - 1 : Nat) : Int) = (K : Int) - 1 := by omega
        rw [hcast]
        clear hcast
        have hp := putL ⟨9, none, 0, []⟩ _ hm8 (.inl rfl) (by rw [HD.out]; omega) (by simp)
        have HP := hid hp
        clear hp
        go_wp2_with fail
        refine HP.out.mono ?_
        rintro e w9 ⟨F9, rfl, hm9, hF9, he9⟩
        have hB9 := below_own hB8 he9 hB8.size hG5
        clear HP hm8 hB8 he9 hF9
        have hs := swapNoL 0 (K : Int) _ hm9 (by rw [List.length_append, HD.out]; simp; omega)
        have HS := hid hs
        clear hs
        go_wp2_with fail
        refine HS.out.mono ?_
        rintro e w' ⟨rfl, rfl⟩
        have hs := copyNoL (-1) _ hm9 (by omega)
        have HS2 := hid hs
        clear hs
        go_wp2_with fail
        refine HS2.out.mono ?_
        rintro e w' ⟨rfl, q, rfl⟩
        go_wp2_with fail
        go_ret
        exact ⟨rfl, below_drewN hB9 q⟩
end Go.Proofs.Ytnhfnklbeifbhaa
