/- FrameBeats: the walk. -/
import Derived.Test.YtogcbiooddodlaaDoorFrameRead
namespace Go.Proofs.YtogcbiooddodlaaDoor
open Go.RowKit
set_option linter.unusedSimpArgs false

theorem mod_nat (a b : Int) (hb : 0 < b) : ∃ m : Nat, a % b = m ∧ (m : Int) < b := ⟨(a % b).toNat, by have := Int.emod_nonneg a (show b ≠ 0 by omega); omega, by have := Int.emod_nonneg a (show b ≠ 0 by omega); have := Int.emod_lt_of_pos a hb; omega⟩
theorem beat_nil : beatB 0 0 0 0 false = [80, 1, 0, 0, 0, 0, 0] := by
  have e : beatB 0 0 0 0 false = form (zz 40) ++ (form (zz (-1)) ++ (form (zz 0) ++ (form (zz 0) ++ (form (zz 0) ++ (form (zz 0) ++ (form (zz 0) ++ [])))))) := by simp [beatB, beatN, cat, bit]
  have z : form (zz 0) = [0] := by rw [show zz 0 = 0 from rfl, form_small (by omega)]; rfl
  rw [e, form_40, form_1, z]
  rfl
set_option maxRecDepth 100000 in
set_option maxHeartbeats 1600000 in
theorem first5_any {ad : Int → Addr} (w : World) (hE : Errs3 ad w) : Calls Tryd.prog 31 #[] w (SaysTrue w) := by
  have hp := bytesOk_any (ad := ad) 0 0 0 0 false w hE ⟨by omega, by omega⟩ ⟨by omega, by omega⟩ (by decide) ⟨by omega, by omega⟩ ⟨by omega, by omega⟩
  rw [beat_nil] at hp
  go_enter Tryd.func31, Tryd.ntmps31
  go_wp2_with fail
  refine hp.mono ?_
  rintro e w1 ⟨A, c, rfl, hs1, hb1⟩
  have hb2 : Below w1.heap.size w1 (w1.alloc (.cells #[.int .u8 80, .int .u8 1, .int .u8 0, .int .u8 0, .int .u8 0, .int .u8 0, .int .u8 0] 5)) := (Below.refl _ _).alloc (Nat.le_refl _) _
  have hS := sameBytes_same A (some ⟨w1.heap.size, 0, none⟩) c 7 [80, 1, 0, 0, 0, 0, 0] _ (It2 hs1 hb2) (sl_lit w1 [80, 1, 0, 0, 0, 0, 0] 5) (by simp)
  have hB2 := hb1.trans (hb2.mono hb1.size)
  clear hp hs1 hb1 hb2
  go_wp2_with fail
  refine hS.mono ?_
  rintro e w' ⟨rfl, q, rfl⟩
  have hB3 := below_drewN hB2 q
  go_wp2_with fail
  go_ret
  exact ⟨rfl, hB3⟩
set_option maxRecDepth 100000 in
set_option maxHeartbeats 6000000 in
theorem frameBeats_walk {ad : Int → Addr} (a0 a1 life seen : Int) (out : Bool) (w : World) (hE : Errs ad w) :
    Calls Tryd.prog 11 #[.int .i64 a0, .int .i64 a1, .int .i64 life, .int .i64 seen, .bool out] w (SaysTrue w) := by
  obtain ⟨f, hf, hf1⟩ := mod_nat a0 16 (by omega)
  obtain ⟨t, ht, ht1⟩ := mod_nat a1 16 (by omega)
  have nf : ∀ w, _ := fun w => number_any a0 16 (by omega) (by omega) w
  have nt : ∀ w, _ := fun w => number_any a1 16 (by omega) (by omega) w
  rw [hf] at nf
  rw [ht] at nt
  clear hf ht
  go_enter Tryd.func11, Tryd.ntmps11
  go_wp2_with fail
  refine (first5_any w hE.three).mono ?_
  rintro e w1 ⟨rfl, hB1⟩
  go_wp2_with fail
  refine (nf _).mono ?_
  rintro e w' ⟨rfl, rfl⟩
  go_wp2_with fail
  refine (nt _).mono ?_
  rintro e w' ⟨rfl, rfl⟩
  clear nf nt
  go_upto_region 5 with (fail)
  have hb2 : Below w1.heap.size w1 (w1.alloc (.cells #[.int .i64 1, .int .i64 f, .int .i64 t, .int .i64 life, .int .i64 seen, .bool out, .int .i64 0, .int .i64 0, .int .i64 0, .slice none 0 0, .slice none 0 0] 64)) := (Below.refl _ _).alloc (Nat.le_refl _) _
  have hF2 : Blk (w1.alloc (.cells #[.int .i64 1, .int .i64 f, .int .i64 t, .int .i64 life, .int .i64 seen, .bool out, .int .i64 0, .int .i64 0, .int .i64 0, .slice none 0 0, .slice none 0 0] 64)) w1.heap.size [.int .i64 1, .int .i64 f, .int .i64 t, .int .i64 life, .int .i64 seen, .bool out, .int .i64 0, .int .i64 0, .int .i64 0, .slice none 0 0, .slice none 0 0] 64 := Blk.new w1 _ _
  have hB2 := hB1.trans (hb2.mono hB1.size)
  have hW1 := hB1.size
  generalize w1.alloc (.cells #[.int .i64 1, .int .i64 f, .int .i64 t, .int .i64 life, .int .i64 seen, .bool out, .int .i64 0, .int .i64 0, .int .i64 0, .slice none 0 0, .slice none 0 0] 64) = w2 at *
  generalize w1.heap.size = tf at *
  have f0 : w2.cell? ⟨tf, 0, none⟩ = some (.int .i64 1) := hF2.cell 0
  have f1 : w2.cell? ⟨tf, 1, none⟩ = some (.int .i64 f) := hF2.cell 1
  have f2 : w2.cell? ⟨tf, 2, none⟩ = some (.int .i64 t) := hF2.cell 2
  have f3 : w2.cell? ⟨tf, 3, none⟩ = some (.int .i64 life) := hF2.cell 3
  have f4 : w2.cell? ⟨tf, 4, none⟩ = some (.int .i64 seen) := hF2.cell 4
  have f5 : w2.cell? ⟨tf, 5, none⟩ = some (.bool out) := hF2.cell 5
  have f6 : w2.cell? ⟨tf, 6, none⟩ = some (.int .i64 0) := hF2.cell 6
  have f7 : w2.cell? ⟨tf, 7, none⟩ = some (.int .i64 0) := hF2.cell 7
  have f8 : w2.cell? ⟨tf, 8, none⟩ = some (.int .i64 0) := hF2.cell 8
  have f9 : w2.cell? ⟨tf, 9, none⟩ = some (.slice none 0 0) := hF2.cell 9
  have f10 : w2.cell? ⟨tf, 10, none⟩ = some (.slice none 0 0) := hF2.cell 10
  by_cases hgood : (0 ≤ life ∧ life ≤ 281474976710655) ∧ (0 ≤ seen ∧ seen ≤ 281474976710655)
  · have hbe : beatE life seen 0 = 0 := if_pos ⟨hgood.1, hgood.2, rfl⟩
    obtain ⟨⟨k1, k2⟩, k3, k4⟩ := hgood
    have hp := bytesOk_any f t life seen out w2 (hE.three.below hB2) ⟨by omega, hf1⟩ ⟨by omega, ht1⟩ hbe ⟨by omega, by omega⟩ ⟨by omega, by omega⟩
    have hin := beat_in (out := out) (f := f) (t := t) ⟨by omega, hf1⟩ ⟨by omega, ht1⟩ ⟨k1, k2⟩ ⟨k3, k4⟩
    have hlen := beat_len hin
    obtain ⟨R, hR⟩ := beat_head f t life seen out
    have hlen2 : (beatB f t life seen out).length = R.length + 2 := by rw [hR]; rfl
    have k2' : life < 281474976710656 := by omega
    have k4' : seen < 281474976710656 := by omega
    have hrd : ∀ (A : Option Addr) (c : Nat) (w' : World), Errs3 ad w' → Sl w' A ((beatB f t life seen out).map (Value.int .u8)) → _ := fun A c w' h1 h2 => readBeat_any f t life seen out A c w' h1 h2 ⟨by omega, hf1⟩ ⟨by omega, ht1⟩ ⟨k1, k2⟩ ⟨k3, k4⟩
    have hvl : ∀ w', Errs3 ad w' → _ := fun w' h1 => valid_any f t life seen out 1 w' h1 ⟨by omega, hf1⟩ ⟨by omega, ht1⟩
    rw [show beatE life seen 1 = 103 from if_neg (fun q => by have := q.2.2; omega)] at hvl
    obtain ⟨B, hB⟩ : ∃ B, beatB f t life seen out = B := ⟨_, rfl⟩
    rw [hB] at hp hR hlen hlen2 hrd
    have HR := hid (And.intro hR (And.intro hlen hlen2))
    clear hbe hin hR hlen hlen2 hB
    go_wp2_with fail
    refine hp.mono ?_
    rintro e w3 ⟨A3, c3, rfl, hs3, hb3⟩
    have hF3 := (Eff.of_below (S := fun _ => False) hb3).blk hF2 (fun h => h)
    have hB3 := hB2.trans (hb3.mono hB2.size)
    have hread := hrd A3 c3 w3 (hE.three.below hB3) hs3
    have hl3 := HR.out.2.2
    obtain ⟨b0, o0, rfl, hbw, hcx⟩ := hs3.at (by rw [List.length_map]; omega)
    have d0 : w3.cell? ⟨b0, o0, none⟩ = some (.int .u8 80) := by
      have := hcx 0 (by rw [List.length_map]; omega)
      rw [HR.out.1] at this
      simpa using this
    have d1 : w3.cell? ⟨b0, o0 + 1, none⟩ = some (.int .u8 1) := by
      have := hcx 1 (by rw [List.length_map]; omega)
      rw [HR.out.1] at this
      simpa using this
    have hBl0 : (0 : Int) < B.length := by omega
    have hBl1 : (1 : Int) < B.length := by omega
    clear hp hF2 hb3 hB2 hcx hs3 hrd hl3 f0 f1 f2 f3 f4 f5 f6 f7 f8 f9 f10
    go_wp2_with fail
    refine hread.mono ?_
    rintro e w4 ⟨rfl, hb4⟩
    have hF4 := (Eff.of_below (S := fun _ => False) hb4).blk hF3 (fun h => h)
    have hB4 := hB3.trans (hb4.mono hB3.size)
    have d0 : w4.cell? ⟨b0, o0, none⟩ = some (.int .u8 80) := (hb4.cell (p := ⟨b0, o0, none⟩) hbw).trans d0
    have d1 : w4.cell? ⟨b0, o0 + 1, none⟩ = some (.int .u8 1) := (hb4.cell (p := ⟨b0, o0 + 1, none⟩) hbw).trans d1
    have hbw4 : b0 < w4.heap.size := Nat.lt_of_lt_of_le hbw hb4.size
    clear hread hF3 hb4 hB3 hbw
    go_upto_region 12 with (fail)
    have hb5 : Below w4.heap.size w4 (w4.alloc (.cells #[.int .i64 1, .int .i64 f, .int .i64 t, .int .i64 life, .int .i64 seen, .bool out, .int .i64 0, .int .i64 0, .int .i64 0, .slice none 0 0, .slice none 0 0] 64)) := (Below.refl _ _).alloc (Nat.le_refl _) _
    have hG5 : Blk (w4.alloc (.cells #[.int .i64 1, .int .i64 f, .int .i64 t, .int .i64 life, .int .i64 seen, .bool out, .int .i64 0, .int .i64 0, .int .i64 0, .slice none 0 0, .slice none 0 0] 64)) w4.heap.size [.int .i64 1, .int .i64 f, .int .i64 t, .int .i64 life, .int .i64 seen, .bool out, .int .i64 0, .int .i64 0, .int .i64 0, .slice none 0 0, .slice none 0 0] 64 := Blk.new w4 _ _
    have hF5 := (Eff.of_below (S := fun _ => False) hb5).blk hF4 (fun h => h)
    have hB5 := hB4.trans (hb5.mono hB4.size)
    have d0 := (hb5.cell (p := ⟨b0, o0, none⟩) hbw4).trans d0
    have d1 := (hb5.cell (p := ⟨b0, o0 + 1, none⟩) hbw4).trans d1
    have hbw5 := Nat.lt_of_lt_of_le hbw4 hb5.size
    have htg : w4.heap.size ≠ tf := by have := hF4.lt; omega
    generalize w4.alloc (.cells #[.int .i64 1, .int .i64 f, .int .i64 t, .int .i64 life, .int .i64 seen, .bool out, .int .i64 0, .int .i64 0, .int .i64 0, .slice none 0 0, .slice none 0 0] 64) = w5 at *
    clear hF4 hb5 hB4 hbw4
    generalize w4.heap.size = tg at *
    have f8 : w5.cell? ⟨tf, 8, none⟩ = some (.int .i64 0) := hF5.cell 8
    have hff : ∀ o, w5.frozen? ⟨tf, o, none⟩ = false := hF5.frozen
    have he6 := (Eff.one tf w5).set 8 (.int .i64 1)
    have hF6 := hF5.set 8 (.int .i64 1)
    have hG6 := he6.blk hG5 (fun q => htg q)
    have hB6 := hB5.setCell (p := ⟨tf, 8, none⟩) hW1 (.int .i64 1)
    by_cases hbt : b0 = tf
    · exfalso
      subst hbt
      have h1 := hF5.cell o0
      rw [d0] at h1
      have h2 : ∀ (j : Nat) (v : Value), ([Value.int .i64 1, .int .i64 f, .int .i64 t, .int .i64 life, .int .i64 seen, .bool out, .int .i64 0, .int .i64 0, .int .i64 0, .slice none 0 0, .slice none 0 0] : List Value)[j]? = some v → v ≠ Value.int .u8 80 := by
        intro j v hj hv
        have hm := List.mem_of_getElem? hj
        rw [hv] at hm
        simp at hm
      exact h2 o0 _ h1.symm rfl
    have d0 := (he6.cell hbw5 hbt).trans d0
    have d1 := (he6.cell hbw5 hbt).trans d1
    have hbw6 := Nat.lt_of_lt_of_le hbw5 he6.size
    have HH6 := hid (And.intro hF6 (And.intro hG6 hB6))
    have HD := hid (And.intro d0 (And.intro d1 hbw6))
    clear hF5 hG5 hB5 hbw5 he6 hF6 hG6 hB6 d0 d1 hbw6
    go_upto_region 13 with (fail)
    clear hff f8
    generalize w5.setCell ⟨tf, 8, none⟩ (.int .i64 1) = w6 at *
    obtain ⟨hF6, hG6, hB6⟩ := HH6.out
    have hF6 : Blk w6 tf [.int .i64 1, .int .i64 f, .int .i64 t, .int .i64 life, .int .i64 seen, .bool out, .int .i64 0, .int .i64 0, .int .i64 1, .slice none 0 0, .slice none 0 0] 64 := hF6
    have d0 : w6.cell? ⟨b0, o0, none⟩ = some (.int .u8 80) := HD.out.1
    have d1 : w6.cell? ⟨b0, o0 + 1, none⟩ = some (.int .u8 1) := HD.out.2.1
    have hbw6 := HD.out.2.2
    have f0 : w6.cell? ⟨tf, 0, none⟩ = some (.int .i64 1) := hF6.cell 0
    have f1 : w6.cell? ⟨tf, 1, none⟩ = some (.int .i64 f) := hF6.cell 1
    have f2 : w6.cell? ⟨tf, 2, none⟩ = some (.int .i64 t) := hF6.cell 2
    have f3 : w6.cell? ⟨tf, 3, none⟩ = some (.int .i64 life) := hF6.cell 3
    have f4 : w6.cell? ⟨tf, 4, none⟩ = some (.int .i64 seen) := hF6.cell 4
    have f5 : w6.cell? ⟨tf, 5, none⟩ = some (.bool out) := hF6.cell 5
    have f6 : w6.cell? ⟨tf, 6, none⟩ = some (.int .i64 0) := hF6.cell 6
    have f7 : w6.cell? ⟨tf, 7, none⟩ = some (.int .i64 0) := hF6.cell 7
    have f8 : w6.cell? ⟨tf, 8, none⟩ = some (.int .i64 1) := hF6.cell 8
    have f9 : w6.cell? ⟨tf, 9, none⟩ = some (.slice none 0 0) := hF6.cell 9
    have f10 : w6.cell? ⟨tf, 10, none⟩ = some (.slice none 0 0) := hF6.cell 10
    have g0 : w6.cell? ⟨tg, 0, none⟩ = some (.int .i64 1) := hG6.cell 0
    have g1 : w6.cell? ⟨tg, 1, none⟩ = some (.int .i64 f) := hG6.cell 1
    have g2 : w6.cell? ⟨tg, 2, none⟩ = some (.int .i64 t) := hG6.cell 2
    have g3 : w6.cell? ⟨tg, 3, none⟩ = some (.int .i64 life) := hG6.cell 3
    have g4 : w6.cell? ⟨tg, 4, none⟩ = some (.int .i64 seen) := hG6.cell 4
    have g5 : w6.cell? ⟨tg, 5, none⟩ = some (.bool out) := hG6.cell 5
    have g6 : w6.cell? ⟨tg, 6, none⟩ = some (.int .i64 0) := hG6.cell 6
    have g7 : w6.cell? ⟨tg, 7, none⟩ = some (.int .i64 0) := hG6.cell 7
    have g8 : w6.cell? ⟨tg, 8, none⟩ = some (.int .i64 0) := hG6.cell 8
    have g9 : w6.cell? ⟨tg, 9, none⟩ = some (.slice none 0 0) := hG6.cell 9
    have g10 : w6.cell? ⟨tg, 10, none⟩ = some (.slice none 0 0) := hG6.cell 10
    have hv := hvl w6 (hE.three.below hB6)
    have e1 : (life == life) = true := by simp
    have e2 : (seen == seen) = true := by simp
    have e3 : (out == out) = true := by simp
    have e4 : ((f : Int) == (f : Int)) = true := by simp
    have e5 : ((t : Int) == (t : Int)) = true := by simp
    clear HH6 HD hvl
    go_wp2_with fail
    refine hv.mono ?_
    rintro e w7 ⟨rfl, hb7⟩
    have hB7 := hB6.trans (hb7.mono hB6.size)
    have his := is_any (k := 103) 103 (hE.below hB7) (.inr (IsErr.mk (by omega)))
    have d0 : w7.cell? ⟨b0, o0, none⟩ = some (.int .u8 80) := (hb7.cell (p := ⟨b0, o0, none⟩) hbw6).trans d0
    have d1 : w7.cell? ⟨b0, o0 + 1, none⟩ = some (.int .u8 1) := (hb7.cell (p := ⟨b0, o0 + 1, none⟩) hbw6).trans d1
    have hbw7 := Nat.lt_of_lt_of_le hbw6 hb7.size
    rw [errV_ne ad (by decide)] at his ⊢
    clear hv hF6 hG6 f0 g0 f1 g1 f2 g2 f3 g3 f4 g4 f5 g5 f6 g6 f7 g7 f8 g8 f9 g9 f10 g10
    go_wp2_with fail
    refine his.mono ?_
    rintro e w8 ⟨rfl, hb8⟩
    have hB8 := hB7.trans (hb8.mono hB7.size)
    have d0 : w8.cell? ⟨b0, o0, none⟩ = some (.int .u8 80) := (hb8.cell (p := ⟨b0, o0, none⟩) hbw7).trans d0
    have d1 : w8.cell? ⟨b0, o0 + 1, none⟩ = some (.int .u8 1) := (hb8.cell (p := ⟨b0, o0 + 1, none⟩) hbw7).trans d1
    clear his
    go_wp2_with fail
    go_ret
    exact ⟨rfl, hB8⟩
  · have hbe : beatE life seen 0 ≠ 0 := by unfold beatE; rw [if_neg (fun q => hgood ⟨q.1, q.2.1⟩)]; decide
    have hp := bytesBad_any f t life seen out w2 (hE.three.below hB2) ⟨by omega, hf1⟩ ⟨by omega, ht1⟩ hbe
    rw [errV_ne ad (by decide)] at hp
    have hcut2 : life < 0 ∨ (0 ≤ life ∧ 281474976710656 ≤ life) ∨ (0 ≤ life ∧ life < 281474976710656 ∧ seen < 0) ∨ (0 ≤ life ∧ life < 281474976710656 ∧ 0 ≤ seen ∧ 281474976710656 ≤ seen) := by omega
    clear hbe hgood
    rcases hcut2 with q1 | ⟨q1, q2⟩ | ⟨q1, q2, q3⟩ | ⟨q1, q2, q3, q4⟩
    all_goals
      try have d4 : decide (seen < 281474976710656) = false := decide_eq_false (by omega)
      go_wp2_with fail
      refine hp.mono ?_
      rintro e w3 ⟨rfl, hb3⟩
      have hB3 := hB2.trans (hb3.mono hB2.size)
      have his := is_any (k := 103) 103 (hE.below hB3) (.inr (IsErr.mk (by omega)))
      rw [errV_ne ad (by decide)] at his
      clear hp
      go_wp2_with fail
      refine his.mono ?_
      rintro e w4 ⟨rfl, hb4⟩
      have hB4 := hB3.trans (hb4.mono hB3.size)
      go_wp2_with fail
      go_ret
      exact ⟨rfl, hB4⟩
end Go.Proofs.YtogcbiooddodlaaDoor
