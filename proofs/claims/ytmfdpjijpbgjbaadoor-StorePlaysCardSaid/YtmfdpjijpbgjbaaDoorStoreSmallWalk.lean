/- StoreSmall: the walk. -/
import Derived.Test.YtmfdpjijpbgjbaaDoorStoreTurnsWalk
namespace Go.Proofs.YtmfdpjijpbgjbaaDoor
open Go.RowKit
set_option linter.unusedSimpArgs false

def ordE (p q : Int) : Int := if p < 5 ∨ q < 7 ∨ (p = 5 ∧ q = 7) then 108 else 0
theorem bad_bare (a r : Int × Int) : Bare (badE a r) := by
  unfold badE
  split
  · exact bare_103
  · split
    · exact .inr (IsErr.mk (by omega))
    · exact .inl rfl
theorem badE_57 (p q : Int) : badE (5, 7) (p, q) = if p < 0 ∨ 281474976710655 < p ∨ q < 0 ∨ 281474976710655 < q then 103 else ordE p q := by
  unfold badE ordE
  by_cases h : p < 0 ∨ 281474976710655 < p ∨ q < 0 ∨ 281474976710655 < q
  · rw [if_pos h, if_pos h]
  · rw [if_neg h, if_neg h]
    simp only [Prod.mk.injEq]
/-- A store, new, on a memory that is big enough. -/
theorem st_made {W w w' : World} {b g s n : Nat} (hB : Below W.heap.size W w) (hc : CellIs w b g (Cl.new n)) (hs : StoreIs w' s b (openR (Cl.new n).bs)) (hbB : W.heap.size ≤ b) (hgB : W.heap.size ≤ g) (hlt : w.heap.size ≤ s) (hb : Below w.heap.size w w') (hn : 26 ≤ n ∧ n ≤ 4096) :
    St W w' b g s (Cl.new n) ((0, 0), -1) := by
  rw [open_new] at hs
  have hl := hc.lt
  have hz := hB.size
  exact ⟨hc.below hb, hs, Cl.new_ok n, by simpa [Cl.new] using hn, rfl, by simp [Cl.new], by decide, hB.trans (hb.mono hB.size), ⟨hbB, hgB, by omega⟩, by omega, by omega⟩
set_option maxRecDepth 100000 in
set_option maxHeartbeats 4000000 in
theorem storeSmall_walk {ad : Int → Addr} (a0 p q : Int) (w : World) (hE : Errs ad w) :
    Calls Tryd.prog 8 #[.int .i64 a0, .int .i64 p, .int .i64 q] w (SaysTrue w) := by
  obtain ⟨m, hm, hm1⟩ := mod_nat a0 60 (by omega)
  have hn : ∀ w, _ := fun w => number_any a0 60 (by omega) (by omega) w
  rw [hm] at hn
  clear hm
  have hfl := rec_count
  have hfm := rec_life
  have hN : ((m + 1 : Nat) : Int) = (m : Int) + 1 := by omega
  go_enter Tryd.func8, Tryd.ntmps8
  go_wp2_with fail
  refine (first3_any w hE.four).mono ?_
  rintro e w1 ⟨rfl, hB1⟩
  go_wp2_with fail
  refine (hn _).mono ?_
  rintro e w' ⟨rfl, rfl⟩
  have hnw := new_yes (m + 1) w1 (by omega) (by omega)
  rw [hN] at hnw
  go_wp2_with fail
  refine hnw.mono ?_
  rintro e w2 ⟨b, g, rfl, hc2, hbB, hgB, hb2⟩
  have hB2 := hB1.trans (hb2.mono hB1.size)
  have hz1 := hB1.size
  have hlen2 : (Cl.new (m + 1)).bs.length = m + 1 := by simp [Cl.new]
  clear hnw hn hb2 hB1
  by_cases hsm : m + 1 < 26
  · have hos := openSmall_any w2 (hE.four.below hB2) hc2 (by rw [hlen2]; exact hsm)
    have hsm' : (m : Int) + 1 < 26 := by omega
    rw [errV_ne ad (by decide)] at hos
    clear hlen2 hN
    go_wp2_with fail
    refine hos.mono ?_
    rintro e w' ⟨rfl, q1, rfl⟩
    have hB3 := below_drewN hB2 q1
    have his := is_any 103 (hE.below hB3) bare_103
    rw [errV_ne ad (by decide)] at his
    clear hos
    go_wp2_with fail
    refine his.mono ?_
    rintro e w4 ⟨rfl, hb4⟩
    have hB4 := hB3.trans (hb4.mono hB3.size)
    go_wp2_with fail
    go_ret
    exact ⟨rfl, hB4⟩
  · have hsm' : ¬ (m : Int) + 1 < 26 := by omega
    have hop := open_any w2 (hE.four.below hB2) hc2 (Cl.new_ok _) rfl (by rw [hlen2]; omega) (by rw [hlen2]; omega)
    have HN := hid (show 26 ≤ m + 1 ∧ m + 1 ≤ 4096 by omega)
    clear hlen2 hN hsm
    go_wp2_with fail
    refine hop.mono ?_
    rintro e w3 ⟨s, rfl, hs3, hlt3, hb3⟩
    have hS3 : St w w3 b g s (Cl.new (m + 1)) ((0, 0), -1) := st_made hB2 hc2 hs3 (Nat.le_trans hz1 hbB) (Nat.le_trans hz1 hgB) hlt3 hb3 HN.out
    have hv := st_save hE.four hS3 rfl (5, 7) (by decide) (by simp [Cl.new])
    clear hop hs3 hb3 hc2 hB2
    go_wp2_with fail
    refine hv.mono ?_
    rintro e w4 ⟨rfl, hS4, _⟩
    rw [errV_zero]
    have hS4 : St w w4 b g s ((Cl.new (m + 1)).kept (-1) (5, 7)) ((5, 7), 0) := hS4
    have hcw : ((Cl.new (m + 1)).kept (-1) (5, 7)).writes = 14 := rfl
    have hcf : ((Cl.new (m + 1)).kept (-1) (5, 7)).fuse = 0 := rfl
    generalize (Cl.new (m + 1)).kept (-1) (5, 7) = c at *
    have hwr := writes_any w4 hS4.cell
    rw [hcw] at hwr
    clear hv hS3
    go_wp2_with fail
    refine hwr.mono ?_
    rintro e w' ⟨rfl, rfl⟩
    go_upto_region 15 with (fail)
    go_cut [75] (fun v wx => v = .bool (decide (ordE p q = 108)) ∧ wx = w4)
    case first =>
      by_cases h1 : p < 5
      · have ho := hid (show ordE p q = 108 from if_pos (.inl h1))
        go_wp2_with fail
        go_meet
        exact ⟨by rw [ho.out]; rfl, rfl⟩
      · have h1' : 5 ≤ p := by omega
        by_cases h2 : q < 7
        · have ho := hid (show ordE p q = 108 from if_pos (.inr (.inl h2)))
          go_wp2_with fail
          go_meet
          exact ⟨by rw [ho.out]; rfl, rfl⟩
        · have h2' : 7 ≤ q := by omega
          by_cases h3 : p = 5
          · subst h3
            by_cases h4 : q = 7
            · subst h4
              go_wp2_with fail
              go_meet
              exact ⟨rfl, rfl⟩
            · have ho := hid (show ordE 5 q = 0 from if_neg (by omega))
              have h4' : (q == 7) = false := by simpa using h4
              clear h4
              go_wp2_with fail
              go_meet
              exact ⟨by rw [ho.out]; rfl, rfl⟩
          · have ho := hid (show ordE p q = 0 from if_neg (by omega))
            have h3' : (p == 5) = false := by simpa using h3
            clear h3
            go_wp2_with fail
            go_meet
            exact ⟨by rw [ho.out]; rfl, rfl⟩
    case rest =>
    obtain ⟨rfl, hwx⟩ := hcut
    obtain rfl : w4 = _ := hwx.symm
    go_upto_if 75 with (fail)
    go_cut [13] (fun v wx => v = .int .i64 (ordE p q) ∧ wx = w4)
    case first =>
      by_cases h1 : ordE p q = 108
      · have hd : decide (ordE p q = 108) = true := by simpa using h1
        rw [hd]
        have ho := hid h1
        clear h1 hd
        go_wp2_with fail
        go_meet
        exact ⟨by rw [ho.out], rfl⟩
      · have hd : decide (ordE p q = 108) = false := by simpa using h1
        rw [hd]
        have h0 : ordE p q = 0 := by
          unfold ordE at h1 ⊢
          split
          · rename_i h; rw [if_pos h] at h1; exact absurd rfl h1
          · rfl
        have ho := hid h0
        clear h1 hd h0
        go_wp2_with fail
        go_meet
        exact ⟨by rw [ho.out], rfl⟩
    case rest =>
      obtain ⟨rfl, hwx⟩ := hcut
      obtain rfl : w4 = _ := hwx.symm
      go_upto_region 17 with (fail)
      go_cut [89] (fun v wx => v = .bool (decide (p < 0 ∨ 281474976710655 < p ∨ q < 0 ∨ 281474976710655 < q)) ∧ wx = w4)
      case first =>
        by_cases h1 : p < 0
        · have ho := hid (decide_eq_true (show p < 0 ∨ 281474976710655 < p ∨ q < 0 ∨ 281474976710655 < q from .inl h1))
          go_wp2_with fail
          go_meet
          exact ⟨by rw [ho.out], rfl⟩
        · have h1' : 0 ≤ p := by omega
          by_cases h2 : q < 0
          · have ho := hid (decide_eq_true (show p < 0 ∨ 281474976710655 < p ∨ q < 0 ∨ 281474976710655 < q by omega))
            go_wp2_with fail
            go_meet
            exact ⟨by rw [ho.out], rfl⟩
          · have h2' : 0 ≤ q := by omega
            by_cases h3 : 281474976710656 ≤ p
            · have ho := hid (decide_eq_true (show p < 0 ∨ 281474976710655 < p ∨ q < 0 ∨ 281474976710655 < q by omega))
              go_wp2_with fail
              go_meet
              exact ⟨by rw [ho.out], rfl⟩
            · by_cases h4 : 281474976710656 ≤ q
              · have ho := hid (decide_eq_true (show p < 0 ∨ 281474976710655 < p ∨ q < 0 ∨ 281474976710655 < q by omega))
                go_wp2_with fail
                go_meet
                exact ⟨by rw [ho.out], rfl⟩
              · have ho := hid (decide_eq_false (show ¬ (p < 0 ∨ 281474976710655 < p ∨ q < 0 ∨ 281474976710655 < q) by omega))
                go_wp2_with fail
                go_meet
                exact ⟨by rw [ho.out], rfl⟩
      case rest =>
      obtain ⟨rfl, hwx⟩ := hcut
      obtain rfl : w4 = _ := hwx.symm
      go_upto_if 89 with (fail)
      go_cut [13] (fun v wx => v = .int .i64 (badE (5, 7) (p, q)) ∧ wx = w4)
      case first =>
        have hB57 := badE_57 p q
        by_cases h1 : p < 0 ∨ 281474976710655 < p ∨ q < 0 ∨ 281474976710655 < q
        · rw [if_pos h1] at hB57
          have hd := decide_eq_true h1
          rw [hd]
          have ho := hid hB57
          clear h1 hd hB57
          go_wp2_with fail
          go_meet
          exact ⟨by rw [ho.out], rfl⟩
        · rw [if_neg h1] at hB57
          have hd := decide_eq_false h1
          rw [hd]
          have ho := hid hB57
          clear h1 hd hB57
          go_wp2_with fail
          go_meet
          exact ⟨by rw [ho.out], rfl⟩
      case rest =>
        obtain ⟨rfl, hwx⟩ := hcut
        obtain rfl : w4 = _ := hwx.symm
        obtain ⟨k, hk⟩ : ∃ k, badE (5, 7) (p, q) = k := ⟨_, rfl⟩
        have HB := hid (hk ▸ bad_bare (5, 7) (p, q) : Bare k)
        by_cases h0 : k = 0
        · subst h0
          have hv := st_save hE.four hS4 hcf (p, q) hk (by omega)
          have hcw2 : (c.kept 0 (p, q)).writes = 14 + 14 := by simp only [Cl.kept]; omega
          rw [hk]
          clear hk hcf
          go_wp2_with fail
          refine hv.mono ?_
          rintro e w5 ⟨rfl, hS5, _⟩
          rw [errV_zero]
          have hS5 : St w w5 b g s (c.kept 0 (p, q)) ((p, q), 1) := hS5
          have hpp : (p == p) = true := by simp
          have hqq : (q == q) = true := by simp
          generalize c.kept 0 (p, q) = c' at *
          clear hv hS4
          have hr := record_any w5 hS5.store
          go_wp2_with fail
          refine hr.mono ?_
          rintro e w6 ⟨rfl, hb6⟩
          have hS6 := hS5.on hb6
          have hr := record_any w6 hS6.store
          clear hS5 hb6
          go_wp2_with fail
          refine hr.mono ?_
          rintro e w7 ⟨rfl, hb7⟩
          have hS7 := hS6.on hb7
          have hwr := writes_any w7 hS7.cell
          rw [hcw2] at hwr
          clear hS6 hb7 hr
          go_wp2_with fail
          refine hwr.mono ?_
          rintro e w' ⟨rfl, rfl⟩
          go_wp2_with fail
          go_ret
          exact ⟨rfl, hS7.below⟩
        · have hv := st_bad hE.four hS4 (p, q) (by rw [hk]; exact h0)
          rw [show badE ((5, 7), (0 : Int)).1 (p, q) = k from hk] at hv
          have hk0 : (k != 0) = true := by simpa using h0
          have hkk : (k == k) = true := by simp
          rw [hk]
          clear hk
          go_wp2_with fail
          refine hv.mono ?_
          rintro e w5 ⟨rfl, hS5, _⟩
          have his := is_any k (hE.below hS5.below) HB.out
          rw [hkk] at his
          clear hv hS4
          go_wp2_with fail
          refine his.mono ?_
          rintro e w6 ⟨rfl, hb6⟩
          have hS6 := hS5.on hb6
          have hwr := writes_any w6 hS6.cell
          rw [hcw] at hwr
          clear hS5 hb6 his
          go_wp2_with fail
          refine hwr.mono ?_
          rintro e w' ⟨rfl, rfl⟩
          have hr := record_any w6 hS6.store
          go_wp2_with fail
          refine hr.mono ?_
          rintro e w7 ⟨rfl, hb7⟩
          have hS7 := hS6.on hb7
          have hr := record_any w7 hS7.store
          clear hS6 hb7
          go_wp2_with fail
          refine hr.mono ?_
          rintro e w8 ⟨rfl, hb8⟩
          have hS8 := hS7.on hb8
          go_wp2_with fail
          go_ret
          exact ⟨rfl, hS8.below⟩
end Go.Proofs.YtmfdpjijpbgjbaaDoor
