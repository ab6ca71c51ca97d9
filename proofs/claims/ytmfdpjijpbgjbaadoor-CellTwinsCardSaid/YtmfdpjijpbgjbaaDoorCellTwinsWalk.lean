/- CellTwins: the walk. -/
import Derived.Test.YtmfdpjijpbgjbaaDoorCellFirst
import Derived.Test.YtmfdpjijpbgjbaaDoorCellRef
namespace Go.Proofs.YtmfdpjijpbgjbaaDoor
open Go.RowKit
set_option linter.unusedSimpArgs false

theorem is_true {c : Cl} {i : Int} (h0 : 0 ≤ i) (h1 : i < c.bs.length) : c.is i = true := by simp [Cl.is, h0, h1]
theorem put_free {c : Cl} {i : Int} (x : Int) (hf : c.fuse = 0) (hd : c.down = false) (hi : c.is i = true) :
    c.putE i = 0 ∧ (c.put i x).fuse = 0 ∧ (c.put i x).down = false ∧ (c.put i x).writes = c.writes + 1 := by
  have hg : c.gone = c := by simp [Cl.gone, hf]
  simp [Cl.putE, Cl.put, hg, hd, hi, hf]
theorem put_more {c : Cl} {i : Int} (x : Int) (hf : 1 < c.fuse) (hd : c.down = false) (hi : c.is i = true) :
    c.putE i = 0 ∧ (c.put i x).fuse = c.fuse - 1 ∧ (c.put i x).down = false ∧ (c.put i x).writes = c.writes + 1 := by
  have hg : c.gone = { c with fuse := c.fuse - 1 } := by
    have : (c.fuse - 1 == 0) = false := by simp; omega
    simp only [Cl.gone, hd, this, true_and]
    rw [if_pos (by omega)]
  simp [Cl.putE, Cl.put, hg, hd, hi]
theorem put_last {c : Cl} {i : Int} (x : Int) (hf : c.fuse = 1) (hd : c.down = false) : c.putE i = 105 ∧ (c.put i x).down = true ∧ (c.put i x).writes = c.writes := by
  have hg : c.gone = { c with fuse := 0, down := true } := by simp [Cl.gone, hd, hf]
  simp [Cl.putE, Cl.put, hg]
theorem put_dead {c : Cl} {i : Int} (x : Int) (hd : c.down = true) : c.putE i = 105 ∧ (c.put i x).down = true ∧ (c.put i x).writes = c.writes := by
  have hg : c.gone = c := by simp [Cl.gone, hd]
  simp [Cl.putE, Cl.put, hg, hd]
/-- Armed for the n-th write, behind k of them. -/
def Left (n : Int) (k : Nat) (c : Cl) : Prop := if n < 1 then c.fuse = 0 ∧ c.down = false else if (k : Int) < n then c.fuse = n - k ∧ c.down = false else c.down = true
theorem left_put {n : Int} {k : Nat} {c : Cl} {i : Int} (x : Int) (h : Left n k c) (hi : c.is i = true) :
    c.putE i = (if n < 1 ∨ (k : Int) + 1 < n then 0 else 105) ∧ Left n (k + 1) (c.put i x) ∧ c.writes ≤ (c.put i x).writes ∧ (c.put i x).writes ≤ c.writes + 1 := by
  unfold Left at *
  by_cases h1 : n < 1
  · rw [if_pos h1] at h
    obtain ⟨e1, e2, e3, e4⟩ := put_free x h.1 h.2 hi
    rw [if_pos h1, if_pos (.inl h1)]
    exact ⟨e1, ⟨e2, e3⟩, by omega, by omega⟩
  · rw [if_neg h1] at h ⊢
    by_cases h2 : (k : Int) < n
    · rw [if_pos h2] at h
      by_cases h3 : (k : Int) + 1 < n
      · obtain ⟨e1, e2, e3, e4⟩ := put_more x (by omega) h.2 hi
        rw [if_pos (.inr h3), if_pos (by omega)]
        exact ⟨e1, ⟨by omega, e3⟩, by omega, by omega⟩
      · obtain ⟨e1, e3, e4⟩ := put_last (i := i) x (by omega) h.2
        rw [if_neg (by omega), if_neg (by omega)]
        exact ⟨e1, e3, by omega, by omega⟩
    · rw [if_neg h2] at h
      obtain ⟨e1, e3, e4⟩ := put_dead (i := i) x h
      rw [if_neg (by omega), if_neg (by omega)]
      exact ⟨e1, e3, by omega, by omega⟩
theorem get_in {c : Cl} {i : Nat} (hd : c.down = false) (hi : i < c.bs.length) : c.get i = c.bs.getD i 0 ∧ c.getE i = 0 := by
  have his : c.is i = true := is_true (by omega) (by omega)
  simp [Cl.get, Cl.getE, hd, his]
theorem get_out {c : Cl} {i : Int} (hd : c.down = false) (hi : i < 0 ∨ c.bs.length ≤ i) : c.get i = 0 ∧ c.getE i = 106 := by
  have his : c.is i = false := by simp [Cl.is]; omega
  simp [Cl.get, Cl.getE, hd, his]

theorem new_get (n j : Nat) : (Cl.new n).bs.getD j 0 = 0 := by
  rw [List.getD_eq_getElem?_getD, Cl.new, List.getElem?_replicate]
  split <;> rfl

def TwinRel (W : World) (ba ga bb gb : Nat) (n : Nat) (i : Value) (wr : World) : Prop :=
  ∃ (k : Nat) (c : Cl), k ≤ n ∧ i = .int .i64 k ∧ CellIs wr ba ga c ∧ CellIs wr bb gb (Cl.new 20) ∧ Below W.heap.size W wr ∧ c.ok ∧ c.bs.length = 20 ∧ c.fuse = 0 ∧ c.down = false ∧ c.writes = k
def TwinRead (W : World) (ba ga bb gb bc gc : Nat) (c : Cl) (i : Value) (wr : World) : Prop :=
  ∃ k : Nat, k ≤ 20 ∧ i = .int .i64 k ∧ CellIs wr ba ga c ∧ CellIs wr bb gb (Cl.new 20) ∧ CellIs wr bc gc c ∧ Below W.heap.size W wr
def TwinPut (W : World) (ba ga bb gb bc gc : Nat) (n : Int) (c : Cl) (i : Value) (wr : World) : Prop :=
  ∃ (k : Nat) (d : Cl), k ≤ 5 ∧ i = .int .i64 ((k : Int) + 1) ∧ CellIs wr ba ga c ∧ CellIs wr bb gb (Cl.new 20) ∧ CellIs wr bc gc d ∧ Below W.heap.size W wr ∧ d.ok ∧ d.bs.length = 20 ∧ 0 ≤ d.writes ∧ d.writes ≤ 30 + k ∧ Left n k d
attribute [irreducible] TwinRel TwinRead TwinPut

set_option maxRecDepth 100000 in
set_option maxHeartbeats 4000000 in
theorem cellTwins_walk {ad : Int → Addr} (A : Option Addr) (cp : Nat) (xs : List Int) (a1 : Int) (w : World) (hx : Sl w A (xs.map (Value.int .i64))) (hxl : xs.length ≤ 9223372036854775807) (hE : Errs ad w) :
    Calls Tryd.prog 4 #[.slice A xs.length cp, .int .i64 a1] w (SaysTrue w) := by
  by_cases hn : xs.length ≤ 30
  · go_enter Tryd.func4, Tryd.ntmps4
    go_wp2_with fail
    refine (first_any _ hE).mono ?_
    rintro e w1 ⟨rfl, hB1⟩
    go_wp2_with fail
    refine (new_yes 20 _ (by omega) (by omega)).mono ?_
    rintro e w2 ⟨ba, ga, rfl, hc2, hbB, hgB, hb2⟩
    have hB2 := hB1.trans (hb2.mono hB1.size)
    have hbW : w.heap.size ≤ ba := Nat.le_trans hB1.size hbB
    have hgW : w.heap.size ≤ ga := Nat.le_trans hB1.size hgB
    clear hB1 hb2 hbB hgB
    go_wp2_with fail
    refine (new_yes 20 _ (by omega) (by omega)).mono ?_
    rintro e w3 ⟨bb, gb, rfl, hd3, hb3, hg3, hbl3⟩
    have hc3 := hc2.below hbl3
    have hB3 := hB2.trans (hbl3.mono hB2.size)
    have hlt := hc2.lt
    have hl1 : ba < bb ∧ ba < gb ∧ ga < bb ∧ ga < gb := ⟨by omega, by omega, by omega, by omega⟩
    have hl2 : w.heap.size ≤ bb ∧ w.heap.size ≤ gb := ⟨by omega, by omega⟩
    clear hc2 hbl3 hB2 hlt hb3 hg3
    go_wp2_with fail
    go_loopw [10] (fun i wr => TwinRel w ba ga bb gb xs.length i wr) (fun i _ => xs.length - (intOf i).toNat)
    case atStart => unfold TwinRel; exact ⟨0, Cl.new 20, by omega, rfl, hc3, hd3, hB3, Cl.new_ok 20, by simp [Cl.new], rfl, rfl, rfl⟩
    case round =>
      clear hc3 hd3 hB3
      unfold TwinRel at hrel
      obtain ⟨k, c, hk, rfl, hc, hd, hB, hok, hlen, hfu, hdn, hwr⟩ := hrel
      by_cases hlt : k < xs.length
      · obtain ⟨b0, o0, rfl, hbw, hcx⟩ := hx.at (by simp; omega)
        have hcell : wr.cell? ⟨b0, o0 + k, none⟩ = some (.int .i64 (xs.getD k 0)) := by
          rw [hB.cell (p := ⟨b0, o0 + k, none⟩) hbw, hcx k (by simpa using hlt)]
          exact getD_int hlt
        generalize xs.getD k 0 = v at *
        obtain ⟨H1, H2⟩ := And.intro (hid hlen) (And.intro (hid hfu) (And.intro (hid hdn) (hid hwr)))
        clear hlen hfu hdn hwr hcx
        go_wp2_with fail
        refine (number_any v 20 (by omega) (by omega) _).mono ?_
        rintro e w' ⟨rfl, rfl⟩
        have hm0 := Int.emod_nonneg v (show (20 : Int) ≠ 0 by omega)
        have hm1 := Int.emod_lt_of_pos v (show (0 : Int) < 20 by omega)
        generalize v % 20 = m at *
        have his : c.is m = true := is_true hm0 (by rw [H1.out]; omega)
        have hp := put_any m ((k : Int) + 1) _ (hE.below hB).four hc hok (by rw [H2.2.2.out]; omega)
        obtain ⟨e1, e2, e3, e4⟩ := put_free ((k : Int) + 1) H2.1.out H2.2.1.out his
        rw [e1, errV_zero] at hp
        have hok2 := Cl.put_ok hok m ((k : Int) + 1) (by omega)
        have hlen2 : (c.put m ((k : Int) + 1)).bs.length = 20 := by rw [Cl.put_len]; exact H1.out
        rw [H2.2.2.out] at e4
        have HP := hid hp
        have HQ := hid (And.intro hlen2 (And.intro e2 (And.intro e3 e4)))
        clear hp e1 e2 e3 e4 hlen2 hcell his
        go_wp2_with fail
        refine HP.out.mono ?_
        rintro e w4 ⟨rfl, hc4, he4⟩
        have hB4 := at2_below hB he4 hbW hgW
        have hd4 := hd.off he4 (by omega) (by omega) (by omega) (by omega)
        clear HP hc hd hB he4
        go_wp2_with fail
        go_roundw
        case rel => unfold TwinRel; exact ⟨k + 1, _, by omega, by go_num, hc4, hd4, hB4, hok2, HQ.out.1, HQ.out.2.1, HQ.out.2.2.1, by rw [HQ.out.2.2.2]; simp⟩
        case measure => simp [intOf]; omega
      · have hke : k = xs.length := by omega
        have HW : Hid (c.writes = (xs.length : Int)) := by rw [Hid, hwr, hke]
        have HL := hid (And.intro hlen (And.intro hfu hdn))
        clear hlen hfu hdn hwr hke hk
        go_wp2_with fail
        refine (number_any a1 5 (by omega) (by omega) _).mono ?_
        rintro e w' ⟨rfl, rfl⟩
        have hm0 := Int.emod_nonneg a1 (show (5 : Int) ≠ 0 by omega)
        have hm1 := Int.emod_lt_of_pos a1 (show (0 : Int) < 5 by omega)
        generalize a1 % 5 = m at *
        go_wp2_with fail
        refine (arm_any m _ hc).mono ?_
        rintro e w4 ⟨rfl, hc4, he4⟩
        have hB4 := at2_below hB he4 hbW hgW
        have hd4 := hd.off he4 (by omega) (by omega) (by omega) (by omega)
        have hok4 := Cl.arm_ok hok m (by omega)
        have HL4 : Hid ((c.arm m).bs.length = 20 ∧ (c.arm m).fuse = m ∧ (c.arm m).down = false ∧ (c.arm m).writes = (xs.length : Int)) := ⟨HL.out.1, by simp only [Cl.arm]; omega, HL.out.2.2, HW.out⟩
        clear hc hd hB he4 hok HL HW
        generalize c.arm m = c2 at *
        go_wp2_with fail
        refine (cellClone_any _ hc4 (by rw [HL4.out.1]; omega) (by rw [HL4.out.1]; omega)).mono ?_
        rintro e w5 ⟨bc, gc, rfl, hq5, hb5, hg5, hbl5⟩
        have hB5 := hB4.trans (hbl5.mono hB4.size)
        have hc5 := hc4.below hbl5
        have hd5 := hd4.below hbl5
        have hlt4 := hc4.lt
        have hltd := hd4.lt
        have hl3 : ba < bc ∧ ba < gc ∧ ga < bc ∧ ga < gc ∧ bb < bc ∧ bb < gc ∧ gb < bc ∧ gb < gc := ⟨by omega, by omega, by omega, by omega, by omega, by omega, by omega, by omega⟩
        have hl4 : w.heap.size ≤ bc ∧ w.heap.size ≤ gc := ⟨by omega, by omega⟩
        clear hc4 hd4 hB4 hbl5 hlt4 hltd hb5 hg5
        go_wp2_with fail
        go_loopw [12] (fun i wr => TwinRead w ba ga bb gb bc gc c2 i wr) (fun i _ => 20 - (intOf i).toNat)
        case atStart => unfold TwinRead; exact ⟨0, by omega, rfl, hc5, hd5, hq5, hB5⟩
        case round =>
          clear hc5 hd5 hq5 hB5
          unfold TwinRead at hrel
          obtain ⟨j, hj, rfl, hc, hd, hq, hB⟩ := hrel
          by_cases hlt : j < 20
          · have hE1 := (hE.below hB).four
            obtain ⟨g1, g2⟩ := get_in (i := j) HL4.out.2.2.1 (by rw [HL4.out.1]; exact hlt)
            obtain ⟨g3, g4⟩ := get_in (c := Cl.new 20) (i := j) rfl (by simp [Cl.new]; exact hlt)
            have hz : (Cl.new 20).bs.getD j 0 = 0 := new_get 20 j
            rw [hz] at g3
            have p1 : ∀ w, Errs4 ad w → CellIs w ba ga c2 → _ := fun w h1 h2 => get_any (ad := ad) (j : Int) w h1 h2
            have p2 : ∀ w, Errs4 ad w → CellIs w bc gc c2 → _ := fun w h1 h2 => get_any (ad := ad) (j : Int) w h1 h2
            have p3 : ∀ w, Errs4 ad w → CellIs w bb gb (Cl.new 20) → _ := fun w h1 h2 => get_any (ad := ad) (j : Int) w h1 h2
            simp only [g1, g2, g3, g4, errV_zero] at p1 p2 p3
            have P1 := hid p1
            have P2 := hid p2
            have P3 := hid p3
            generalize c2.bs.getD j 0 = v at *
            clear p1 p2 p3 g1 g2 g3 g4 hz
            go_wp2_with fail
            refine (P1.out _ hE1 hc).mono ?_
            rintro e w5 ⟨rfl, q1, rfl⟩
            have hB5 := below_drewN hB q1
            have hc5 : CellIs (wr.drewN q1) ba ga c2 := hc
            have hd5 : CellIs (wr.drewN q1) bb gb (Cl.new 20) := hd
            have hq5 : CellIs (wr.drewN q1) bc gc c2 := hq
            clear P1 hE1 hc hd hq hB
            generalize wr.drewN q1 = w5 at *
            go_wp2_with fail
            refine (P2.out _ (hE.below hB5).four hq5).mono ?_
            rintro e w6 ⟨rfl, q2, rfl⟩
            have hB6 := below_drewN hB5 q2
            have hc6 : CellIs (w5.drewN q2) ba ga c2 := hc5
            have hd6 : CellIs (w5.drewN q2) bb gb (Cl.new 20) := hd5
            have hq6 : CellIs (w5.drewN q2) bc gc c2 := hq5
            clear P2 hc5 hd5 hq5 hB5
            generalize w5.drewN q2 = w6 at *
            go_wp2_with fail
            refine (P3.out _ (hE.below hB6).four hd6).mono ?_
            rintro e w7 ⟨rfl, q3, rfl⟩
            go_wp2_with fail
            go_roundw
            case rel => unfold TwinRead; exact ⟨j + 1, by omega, by go_num, hc6, hd6, hq6, below_drewN hB6 q3⟩
            case measure => simp [intOf]; omega
          · clear hj
            go_wp2_with fail
            go_loopw [19] (fun i wr => TwinPut w ba ga bb gb bc gc m c2 i wr) (fun i _ => 6 - (intOf i).toNat)
            case atStart => 
              unfold TwinPut
              refine ⟨0, c2, by omega, rfl, hc, hd, hq, hB, hok4, HL4.out.1, by rw [HL4.out.2.2.2]; omega, by rw [HL4.out.2.2.2]; omega, ?_⟩
              obtain ⟨_, e2, e3, _⟩ := HL4.out
              unfold Left
              split
              · exact ⟨by omega, e3⟩
              · split
                · exact ⟨by omega, e3⟩
                · omega
            case round =>
              clear hc hd hq hB
              unfold TwinPut at hrel
              obtain ⟨k, d, hk, rfl, hc, hd, hq, hB, hokd, hlend, hw0, hw1, hleft⟩ := hrel
              have HLD := hid hlend
              clear hlend
              by_cases hlt : k < 5
              · have his : d.is 0 = true := is_true (by omega) (by rw [HLD.out]; omega)
                have hp := put_any 0 99 _ (hE.below hB).four hq hokd ⟨hw0, by omega⟩
                obtain ⟨e1, e2, e3, e4⟩ := left_put 99 hleft his
                rw [e1] at hp
                have hok2 := Cl.put_ok hokd 0 99 (by omega)
                have hlen2 : (d.put 0 99).bs.length = 20 := by rw [Cl.put_len]; exact HLD.out
                have HQ := hid (And.intro hlen2 (And.intro e2 (And.intro e3 e4)))
                clear e1 e2 e3 e4 hlen2 his hleft
                by_cases h1 : m < 1
                · rw [if_pos (.inl h1), errV_zero] at hp
                  have HP := hid hp
                  clear hp
                  go_wp2_with fail
                  refine HP.out.mono ?_
                  rintro e w6 ⟨rfl, hq6, he6⟩
                  have hB6 := at2_below hB he6 hl4.1 hl4.2
                  have hc6 := hc.off he6 (by omega) (by omega) (by omega) (by omega)
                  have hd6 := hd.off he6 (by omega) (by omega) (by omega) (by omega)
                  clear HP hc hd hq hB he6
                  have D1 := hid (down_any _ hc6)
                  have D2 := hid (down_any _ hd6)
                  go_wp2_with fail
                  refine D1.out.mono ?_
                  rintro e w' ⟨rfl, rfl⟩
                  rw [HL4.out.2.2.1]
                  go_wp2_with fail
                  refine D2.out.mono ?_
                  rintro e w' ⟨rfl, rfl⟩
                  rw [show (Cl.new 20).down = false from rfl]
                  go_wp2_with fail
                  go_roundw
                  case rel => unfold TwinPut; exact ⟨k + 1, _, by omega, by go_num, hc6, hd6, hq6, hB6, hok2, HQ.out.1, by have := HQ.out.2.2; omega, by have := HQ.out.2.2; omega, HQ.out.2.1⟩
                  case measure => simp [intOf]; omega
                · by_cases h2 : (k : Int) + 1 < m
                  · rw [if_pos (.inr h2), errV_zero] at hp
                    have HP := hid hp
                    clear hp
                    go_wp2_with fail
                    refine HP.out.mono ?_
                    rintro e w6 ⟨rfl, hq6, he6⟩
                    have hB6 := at2_below hB he6 hl4.1 hl4.2
                    have hc6 := hc.off he6 (by omega) (by omega) (by omega) (by omega)
                    have hd6 := hd.off he6 (by omega) (by omega) (by omega) (by omega)
                    clear HP hc hd hq hB he6
                    have D1 := hid (down_any _ hc6)
                    have D2 := hid (down_any _ hd6)
                    go_wp2_with fail
                    refine D1.out.mono ?_
                    rintro e w' ⟨rfl, rfl⟩
                    rw [HL4.out.2.2.1]
                    go_wp2_with fail
                    refine D2.out.mono ?_
                    rintro e w' ⟨rfl, rfl⟩
                    rw [show (Cl.new 20).down = false from rfl]
                    go_wp2_with fail
                    go_roundw
                    case rel => unfold TwinPut; exact ⟨k + 1, _, by omega, by go_num, hc6, hd6, hq6, hB6, hok2, HQ.out.1, by have := HQ.out.2.2; omega, by have := HQ.out.2.2; omega, HQ.out.2.1⟩
                    case measure => simp [intOf]; omega
                  · rw [if_neg (by omega), errV_ne _ (by decide)] at hp
                    have HP := hid hp
                    clear hp
                    go_wp2_with fail
                    refine HP.out.mono ?_
                    rintro e w6 ⟨rfl, hq6, he6⟩
                    have hB6 := at2_below hB he6 hl4.1 hl4.2
                    have hc6 := hc.off he6 (by omega) (by omega) (by omega) (by omega)
                    have hd6 := hd.off he6 (by omega) (by omega) (by omega) (by omega)
                    clear HP hc hd hq hB he6
                    have D1 := hid (down_any _ hc6)
                    have D2 := hid (down_any _ hd6)
                    go_wp2_with fail
                    refine D1.out.mono ?_
                    rintro e w' ⟨rfl, rfl⟩
                    rw [HL4.out.2.2.1]
                    go_wp2_with fail
                    refine D2.out.mono ?_
                    rintro e w' ⟨rfl, rfl⟩
                    rw [show (Cl.new 20).down = false from rfl]
                    go_wp2_with fail
                    go_roundw
                    case rel => unfold TwinPut; exact ⟨k + 1, _, by omega, by go_num, hc6, hd6, hq6, hB6, hok2, HQ.out.1, by have := HQ.out.2.2; omega, by have := HQ.out.2.2; omega, HQ.out.2.1⟩
                    case measure => simp [intOf]; omega
              · obtain ⟨g1, g2⟩ := get_out (c := c2) (i := -1) HL4.out.2.2.1 (by omega)
                obtain ⟨g3, g4⟩ := get_out (c := c2) (i := 20) HL4.out.2.2.1 (by rw [HL4.out.1]; omega)
                have p1 := get_any (ad := ad) (-1) _ (hE.below hB).four hc
                rw [g1, g2] at p1
                have P1 := hid p1
                clear p1 hq hleft hokd HLD hw0 hw1
                go_wp2_with fail
                refine P1.out.mono ?_
                rintro e w6 ⟨rfl, q1, rfl⟩
                have hB6 := below_drewN hB q1
                have hc6 : CellIs (wr.drewN q1) ba ga c2 := hc
                have hd6 : CellIs (wr.drewN q1) bb gb (Cl.new 20) := hd
                have p2 := get_any (ad := ad) 20 _ (hE.below hB6).four hc6
                rw [g3, g4] at p2
                have P2 := hid p2
                clear p2 g1 g2 g3 g4 P1 hc hd hB
                generalize wr.drewN q1 = w7 at *
                go_wp2_with fail
                refine P2.out.mono ?_
                rintro e w6 ⟨rfl, q2, rfl⟩
                have hB8 := below_drewN hB6 q2
                have hc8 : CellIs (w7.drewN q2) ba ga c2 := hc6
                have hd8 : CellIs (w7.drewN q2) bb gb (Cl.new 20) := hd6
                clear P2 hc6 hd6 hB6
                generalize w7.drewN q2 = w8 at *
                go_wp2_with fail
                refine (writes_any _ hc8).mono ?_
                rintro e w' ⟨rfl, rfl⟩
                rw [HL4.out.2.2.2]
                go_wp2_with fail
                refine (writes_any _ hd8).mono ?_
                rintro e w' ⟨rfl, rfl⟩
                rw [show (Cl.new 20).writes = 0 from rfl]
                go_wp2_with fail
                refine (is_any 106 (hE.below hB8) bare_106).mono ?_
                rintro e w9 ⟨rfl, hb9⟩
                have hB9 := hB8.trans (hb9.mono hB8.size)
                go_wp2_with fail
                refine (is_any 106 (hE.below hB9) bare_106).mono ?_
                rintro e w10 ⟨rfl, hb10⟩
                have hB10 := hB9.trans (hb10.mono hB9.size)
                go_wp2_with fail
                go_ret
                exact ⟨rfl, hB10⟩
  · have hn2 : 30 < (xs.length : Int) := by omega
    go_enter Tryd.func4, Tryd.ntmps4
    go_wp2_with fail
    refine (first_any _ hE).mono ?_
    rintro e w1 ⟨rfl, hB1⟩
    go_wp2_with fail
    go_ret
    exact ⟨rfl, hB1⟩
end Go.Proofs.YtmfdpjijpbgjbaaDoor
