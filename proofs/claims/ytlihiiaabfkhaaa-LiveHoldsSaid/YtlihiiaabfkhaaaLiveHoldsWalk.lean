/- LiveHolds: the walk: whatever numbers come, the Go text returns true. -/
import Derived.Test.YtlihiiaabfkhaaaLiveFirst
import Derived.Test.YtlihiiaabfkhaaaLiveOne
namespace Go.Proofs.Ytlihiiaabfkhaaa
open Go.RowKit

structure HoldsInv (ev : Int) (out : Bool) (k : Nat) (o : One) (old s : Int) : Prop where
  old0 : 0 ≤ old
  old1 : old ≤ k
  known : o.known = true
  life : o.life = 5
  heard : o.heard = true ↔ old ≤ 3
  age : o.heard = true → o.age = old
  ok : o.ok
  outs : o.out = (out && decide (ev ≤ k))
  s0 : 0 ≤ s
  s1 : s ≤ 20
theorem holds_start {ev : Int} (h : 1 ≤ ev) (out : Bool) : HoldsInv ev out 0 ⟨true, true, false, 5, 0⟩ 0 1 :=
  ⟨by decide, by decide, rfl, rfl, by simp, by simp, ⟨by decide, by decide, by simp⟩, by simp; intro _; omega, by decide, by decide⟩
theorem holds_tick {ev : Int} {out : Bool} {k : Nat} {o : One} {old s : Int} (h : HoldsInv ev out k o old s) : o.tick.known = true ∧ o.tick.life = 5 ∧ (o.tick.heard = true ↔ old + 1 ≤ 3) ∧ (o.tick.heard = true → o.tick.age = old + 1) ∧ o.tick.ok ∧ o.tick.out = o.out := by
  have h0 := h.heard
  have h1 := h.age
  have h2 := h.old0
  cases hh : o.heard with
  | true =>
    have := h1 hh
    refine ⟨by simp [One.tick, hh, h.known], by simp [One.tick, hh, h.life], by simp [One.tick, hh]; omega, by simp [One.tick, hh]; omega, One.tick_ok h.ok, by simp [One.tick, hh]⟩
  | false =>
    have h3 : ¬ old ≤ 3 := fun x => by rw [h0.2 x] at hh; cases hh
    refine ⟨by simp [One.tick, hh, h.known], by simp [One.tick, hh, h.life], by simp [One.tick, hh]; omega, by simp [One.tick, hh], One.tick_ok h.ok, by simp [One.tick, hh]⟩
theorem holds_stay {ev : Int} {out : Bool} {k : Nat} {o : One} {old s : Int} (h : HoldsInv ev out k o old s) (hm : ¬ ((k : Int) + 1) % ev = 0) : HoldsInv ev out (k + 1) o.tick (old + 1) s := by
  obtain ⟨a, b, c, d, e, f⟩ := holds_tick h
  have h0 := h.old0
  have h1 := h.old1
  refine ⟨by omega, by omega, a, b, c, d, e, ?_, h.s0, h.s1⟩
  rw [f, h.outs]
  have hne : ev ≠ (k : Int) + 1 := fun x => hm (by rw [x]; exact Int.emod_self)
  congr 1
  rw [Bool.eq_iff_iff]
  simp
  omega
theorem holds_again {ev : Int} {out : Bool} {k : Nat} {o : One} {old s : Int} (h : HoldsInv ev out k o old s) (hk : k < 20) (hm : ((k : Int) + 1) % ev = 0) :
    HoldsInv ev out (k + 1) ⟨true, true, out, 5, 0⟩ 0 (max s ((k : Int) + 1)) := by
  have h0 := h.s0
  have h1 := h.s1
  refine ⟨by omega, by omega, rfl, rfl, by simp, by simp, ⟨by simp, by simp, by simp⟩, ?_, by omega, by omega⟩
  have : ev ≤ (k : Int) + 1 := Int.le_of_dvd (by omega) (Int.dvd_of_emod_eq_zero hm)
  simp [this]
theorem holds_alive {ev : Int} {out : Bool} {k : Nat} {o : One} {old s : Int} (h : HoldsInv ev out (k + 1) o old s) : o.alive = (decide (old ≤ 3) && (!out || decide ((k : Int) + 1 < ev))) := by
  unfold One.alive
  rw [h.outs]
  have e1 : o.heard = decide (old ≤ 3) := by rw [Bool.eq_iff_iff, h.heard]; simp
  rw [e1]
  congr 1
  cases out with
  | false => rfl
  | true =>
    rw [Bool.eq_iff_iff]
    simp

def HoldsRel (w : World) (ev : Int) (out : Bool) (tk b : Nat) (v i : Value) (wr : World) : Prop :=
  ∃ (k : Nat) (o : One) (old s : Int), k ≤ tk ∧ i = .int .i64 ((k : Int) + 1) ∧ v = .int .i64 old ∧ HoldsInv ev out k o old s ∧ Blk wr b (Tab.lone 3 o s).cells 28 ∧ Below w.heap.size w wr

set_option maxRecDepth 100000 in
set_option maxHeartbeats 2000000 in
theorem liveHolds_walk (a0 a1 : Int) (out : Bool) (w : World) : Calls Try.prog 4 #[.int .i64 a0, .int .i64 a1, .bool out] w (SaysTrue w) := by
  have hz := zero_table
  go_enter Try.func4, Try.ntmps4
  go_wp2_with fail
  refine (first_any _).mono ?_
  rintro e w1 ⟨rfl, hB1⟩
  go_wp2_with fail
  refine (number_rng _ _ (by omega) (by omega) _).mono ?_
  rintro e w' ⟨ev0, he0, he1, rfl, rfl⟩
  go_wp2_with fail
  refine (number_rng _ _ (by omega) (by omega) _).mono ?_
  rintro e w' ⟨tk0, ht0, ht1, rfl, rfl⟩
  obtain ⟨tk, rfl⟩ := Int.eq_ofNat_of_zero_le ht0
  obtain ⟨ev, hev⟩ : ∃ ev, ev0 + 1 = ev := ⟨_, rfl⟩
  have hev1 : 1 ≤ ev := by omega
  have hev2 : ev ≤ 6 := by omega
  go_wp2_with fail
  obtain ⟨w2, hw2⟩ : ∃ w2, w2 = w1.alloc (.cells Tab.zero.cells.toArray 28) := ⟨_, rfl⟩
  have hT2 : Blk w2 w1.heap.size Tab.zero.cells 28 := by rw [hw2]; exact Blk.new w1 _ _
  have hB2 : Below w.heap.size w w2 := by rw [hw2]; exact hB1.alloc hB1.size _
  rw [← hw2]
  have hz1 := hB1.size
  generalize w1.heap.size = B at *
  clear hw2 hz hev he0 he1 hB1
  refine (hear_yes Tab.ok_zero _ _ _ _ _ hT2 rfl).mono ?_
  rintro e w3 ⟨rfl, hT3, he3⟩
  have hB3 := he3.below hB2 hB2.size (fun i hi => by omega)
  have hT4 : Blk w3 B (Tab.lone 3 ⟨true, true, false, 5, 0⟩ 1).cells 28 := hT3
  clear hT3 hT2 hB2 he3
  go_wp2
  go_loopw [9, 10] (fun v i wr => HoldsRel w ev out tk B v i wr) (fun _ i _ => tk + 1 - (intOf i).toNat)
  case atStart => exact ⟨0, _, 0, 1, by omega, rfl, rfl, holds_start hev1 out, hT4, hB3⟩
  case round =>
    clear hT4 hB3
    obtain ⟨k, o, old, s, hk, rfl, rfl, hinv, hT, hBl⟩ := hrel
    have hold0 := hinv.old0
    have hold1 := hinv.old1
    by_cases hlt : k < tk
    · go_wp2_with fail
      refine (tick_any (lone_ok hinv.ok) _ hT).mono ?_
      rintro e w4 ⟨rfl, hT1, he4⟩
      have hB1 := he4.below hBl hBl.size (fun i hi => by omega)
      rw [lone_tick] at hT1
      have hk20 : k < 20 := by omega
      clear hT hBl he4
      by_cases hm : ((k : Int) + 1) % ev = 0
      · have hmb : (((k : Int) + 1) % ev == 0) = true := by simpa using hm
        have hi2 := holds_again hinv hk20 hm
        obtain ⟨ta, tb, _, _, te, _⟩ := holds_tick hinv
        have hn1 : (Tab.lone 3 o.tick s).takes 3 4 99 = false := by rw [lone_takes (c := 3) (by decide) 3 rfl, ta, tb]; rfl
        have hy1 : (Tab.lone 3 o.tick s).takes 3 5 ((k : Int) + 1) = true := by rw [lone_takes (c := 3) (by decide) 3 rfl, ta, tb]; simp; omega
        have hh1 : (Tab.lone 3 o.tick s).hear 3 5 ((k : Int) + 1) out = Tab.lone 3 ⟨true, true, out, 5, 0⟩ (max s ((k : Int) + 1)) := lone_hear (c := 3) 3 rfl _ _ _ _ _ hy1
        have HH1 := hid hh1
        have HN1 := hid hn1
        have HY1 := hid hy1
        clear hm hn1 hy1 ta tb hh1
        go_wp2_with fail
        refine (hear_no (lone_ok te) _ _ _ _ _ hT1 HN1.out).mono ?_
        rintro e w' ⟨rfl, rfl⟩
        go_wp2_with fail
        refine (hear_yes (lone_ok te) _ _ _ _ _ hT1 HY1.out).mono ?_
        rintro e w5 ⟨rfl, hT2, he5⟩
        have hB2 := he5.below hB1 hB1.size (fun i hi => by omega)
        rw [HH1.out] at hT2
        clear hT1 hB1 he5 HH1 HN1 HY1 te hinv hold0 hold1
        generalize max s ((k : Int) + 1) = s2 at *
        obtain ⟨o2, ho2⟩ : ∃ o2 : One, o2 = ⟨true, true, out, 5, 0⟩ := ⟨_, rfl⟩
        rw [← ho2] at hi2
        rw [← ho2] at hT2
        clear ho2
        have hal2 := holds_alive hi2
        by_cases h3 : (0 : Int) ≤ 3
        · cases out with
          | false =>
            have HA : Hid ((Tab.lone 3 o2 s2).alive = [3]) := by rw [Hid, lone_alive (by decide), hal2, decide_eq_true h3]; rfl
            clear hal2
            have hall := alive_any (lone_ok hi2.ok) _ hT2
            rw [HA.out] at hall
            go_wp2_with fail
            refine hall.mono ?_
            rintro e w8 ⟨v, rfl, hrow, hbl8⟩
            obtain ⟨A1, c1, rfl, hs1, _⟩ := row_open hrow
            have hT8 := (Eff.of_below (S := fun _ => False) hbl8).blk hT2 (fun h => h)
            have hB8 := hB2.trans (hbl8.mono hB2.size)
            clear hall hrow hbl8 hT2 hB2 hs1
            go_wp2
            go_roundw
            case rel => exact ⟨k + 1, o2, (0 : Int), s2, by omega, by go_num, rfl, hi2, hT8, hB8⟩
            case measure => simp [intOf]; omega
          | true =>
            by_cases hev : (k : Int) + 1 < ev
            · have HA : Hid ((Tab.lone 3 o2 s2).alive = [3]) := by rw [Hid, lone_alive (by decide), hal2, decide_eq_true h3, decide_eq_true hev]; rfl
              clear hal2
              have hall := alive_any (lone_ok hi2.ok) _ hT2
              rw [HA.out] at hall
              go_wp2_with fail
              refine hall.mono ?_
              rintro e w8 ⟨v, rfl, hrow, hbl8⟩
              obtain ⟨A1, c1, rfl, hs1, _⟩ := row_open hrow
              have hT8 := (Eff.of_below (S := fun _ => False) hbl8).blk hT2 (fun h => h)
              have hB8 := hB2.trans (hbl8.mono hB2.size)
              clear hall hrow hbl8 hT2 hB2 hs1
              go_wp2
              go_roundw
              case rel => exact ⟨k + 1, o2, (0 : Int), s2, by omega, by go_num, rfl, hi2, hT8, hB8⟩
              case measure => simp [intOf]; omega
            · have HA : Hid ((Tab.lone 3 o2 s2).alive = []) := by rw [Hid, lone_alive (by decide), hal2, decide_eq_false hev]; simp
              clear hal2
              have hall := alive_any (lone_ok hi2.ok) _ hT2
              rw [HA.out] at hall
              go_wp2_with fail
              refine hall.mono ?_
              rintro e w8 ⟨v, rfl, hrow, hbl8⟩
              obtain ⟨A1, c1, rfl, hs1, _⟩ := row_open hrow
              have hT8 := (Eff.of_below (S := fun _ => False) hbl8).blk hT2 (fun h => h)
              have hB8 := hB2.trans (hbl8.mono hB2.size)
              clear hall hrow hbl8 hT2 hB2 hs1
              go_wp2
              go_roundw
              case rel => exact ⟨k + 1, o2, (0 : Int), s2, by omega, by go_num, rfl, hi2, hT8, hB8⟩
              case measure => simp [intOf]; omega
        · omega
      · have hmb : (((k : Int) + 1) % ev == 0) = false := by simpa using hm
        have hi2 := holds_stay hinv hm
        obtain ⟨_, _, _, _, te, _⟩ := holds_tick hinv
        have hT2 := hT1
        have hB2 := hB1
        clear hm hT1 hB1 hinv te
        generalize o.tick = o2 at *
        generalize hs2 : s = s2 at *
        clear hs2
        obtain ⟨old2, hold2⟩ : ∃ old2 : Int, old + 1 = old2 := ⟨_, rfl⟩
        rw [hold2] at hi2
        have hal2 := holds_alive hi2
        by_cases h3 : old2 ≤ 3
        · cases out with
          | false =>
            have HA : Hid ((Tab.lone 3 o2 s2).alive = [3]) := by rw [Hid, lone_alive (by decide), hal2, decide_eq_true h3]; rfl
            clear hal2
            have hall := alive_any (lone_ok hi2.ok) _ hT2
            rw [HA.out] at hall
            go_wp2_with fail
            refine hall.mono ?_
            rintro e w8 ⟨v, rfl, hrow, hbl8⟩
            obtain ⟨A1, c1, rfl, hs1, _⟩ := row_open hrow
            have hT8 := (Eff.of_below (S := fun _ => False) hbl8).blk hT2 (fun h => h)
            have hB8 := hB2.trans (hbl8.mono hB2.size)
            clear hall hrow hbl8 hT2 hB2 hs1
            go_wp2
            go_roundw
            case rel => exact ⟨k + 1, o2, old2, s2, by omega, by go_num, rfl, hi2, hT8, hB8⟩
            case measure => simp [intOf]; omega
          | true =>
            by_cases hev : (k : Int) + 1 < ev
            · have HA : Hid ((Tab.lone 3 o2 s2).alive = [3]) := by rw [Hid, lone_alive (by decide), hal2, decide_eq_true h3, decide_eq_true hev]; rfl
              clear hal2
              have hall := alive_any (lone_ok hi2.ok) _ hT2
              rw [HA.out] at hall
              go_wp2_with fail
              refine hall.mono ?_
              rintro e w8 ⟨v, rfl, hrow, hbl8⟩
              obtain ⟨A1, c1, rfl, hs1, _⟩ := row_open hrow
              have hT8 := (Eff.of_below (S := fun _ => False) hbl8).blk hT2 (fun h => h)
              have hB8 := hB2.trans (hbl8.mono hB2.size)
              clear hall hrow hbl8 hT2 hB2 hs1
              go_wp2
              go_roundw
              case rel => exact ⟨k + 1, o2, old2, s2, by omega, by go_num, rfl, hi2, hT8, hB8⟩
              case measure => simp [intOf]; omega
            · have HA : Hid ((Tab.lone 3 o2 s2).alive = []) := by rw [Hid, lone_alive (by decide), hal2, decide_eq_false hev]; simp
              clear hal2
              have hall := alive_any (lone_ok hi2.ok) _ hT2
              rw [HA.out] at hall
              go_wp2_with fail
              refine hall.mono ?_
              rintro e w8 ⟨v, rfl, hrow, hbl8⟩
              obtain ⟨A1, c1, rfl, hs1, _⟩ := row_open hrow
              have hT8 := (Eff.of_below (S := fun _ => False) hbl8).blk hT2 (fun h => h)
              have hB8 := hB2.trans (hbl8.mono hB2.size)
              clear hall hrow hbl8 hT2 hB2 hs1
              go_wp2
              go_roundw
              case rel => exact ⟨k + 1, o2, old2, s2, by omega, by go_num, rfl, hi2, hT8, hB8⟩
              case measure => simp [intOf]; omega
        · have HA : Hid ((Tab.lone 3 o2 s2).alive = []) := by rw [Hid, lone_alive (by decide), hal2, decide_eq_false h3]; simp
          clear hal2
          have hall := alive_any (lone_ok hi2.ok) _ hT2
          rw [HA.out] at hall
          go_wp2_with fail
          refine hall.mono ?_
          rintro e w8 ⟨v, rfl, hrow, hbl8⟩
          obtain ⟨A1, c1, rfl, hs1, _⟩ := row_open hrow
          have hT8 := (Eff.of_below (S := fun _ => False) hbl8).blk hT2 (fun h => h)
          have hB8 := hB2.trans (hbl8.mono hB2.size)
          clear hall hrow hbl8 hT2 hB2 hs1
          go_wp2
          go_roundw
          case rel => exact ⟨k + 1, o2, old2, s2, by omega, by go_num, rfl, hi2, hT8, hB8⟩
          case measure => simp [intOf]; omega
    · have hn : (Tab.lone 3 o s).has 3 = true := by
        have := lone_has (c := 3) (by decide) 3 rfl o s
        rw [hinv.known] at this
        exact this
      have hl : (Tab.lone 3 o s).lifeOf 3 = 5 := by
        have := lone_life (c := 3) (by decide) 3 rfl o s
        rw [hinv.known, if_pos rfl, hinv.life] at this
        exact this
      have hlf := life_any (lone_ok (c := 3) (s := s) hinv.ok) 3 _ hT
      rw [hn, hl] at hlf
      have hs1 : s < 99 := by have := hinv.s1; omega
      have hok := lone_ok (c := 3) (s := s) hinv.ok
      have HS : Hid ((Tab.lone 3 o s).seen = s) := rfl
      clear hn hl
      go_wp2_with fail
      refine hlf.mono ?_
      rintro e w' ⟨rfl, rfl⟩
      clear hlf
      go_wp2_with fail
      refine (seen_any hok _ hT).mono ?_
      rintro e w' ⟨rfl, rfl⟩
      rw [HS.out]
      go_wp2
      go_ret
      exact ⟨rfl, hBl⟩
end Go.Proofs.Ytlihiiaabfkhaaa
