/- A reader: a text. -/
import Derived.Test.YtogcbiooddodlaaDoorWireText
import Derived.Test.YtogcbiooddodlaaDoorWireMore
namespace Go.Proofs.YtogcbiooddodlaaDoor
open Go.RowKit
set_option linter.unusedSimpArgs false

def textAt (bs : List Int) (p : Nat) : Int × Nat × Option (Int × Nat) → ByteArray × Nat × Option (Int × Nat)
  | (_, q, some k) => (ByteArray.empty, q, some k)
  | (x, q, none) => if (bs.length : Int) - q < x then (ByteArray.empty, p, some (101, p)) else (strOfNums ((bs.drop q).take x.toNat), q + x.toNat, none)
def textR (bs : List Int) (most : Int) (p : Nat) (o : Option (Int × Nat)) : ByteArray × Nat × Option (Int × Nat) := textAt bs p (numR bs 0 most p o)
theorem numR_none {bs : List Int} {low high x : Int} {p q : Nat} {o : Option (Int × Nat)} (h : numR bs low high p o = (x, q, none)) : low ≤ x ∧ x ≤ high ∧ p < q := by
  cases o with
  | some e => simp [numR] at h
  | none =>
    rw [numR] at h
    cases hd : rd (bs.drop p) 0 0 with
    | ends => rw [hd] at h; simp [numAt] at h
    | shape => rw [hd] at h; simp [numAt] at h
    | num n k =>
      rw [hd, numAt] at h
      split at h
      · simp only [Prod.mk.injEq] at h
        have := rd_len _ _ _ _ _ hd
        omega
      · simp at h

def GivesTextR (ad : Int → Addr) (w : World) (lo r : Nat) (bs : List Int) (a : ByteArray × Nat × Option (Int × Nat)) (e : Ending) (w' : World) : Prop := e = .returned (.string a.1) ∧ RdrL ad w' lo r bs a.2.1 a.2.2 ∧ Eff (· = r) w w'
set_option maxRecDepth 100000 in
set_option maxHeartbeats 4000000 in
theorem text_any {ad : Int → Addr} {lo r p : Nat} {bs : List Int} {o : Option (Int × Nat)} (most : Int) (w : World) (hE : Errs3 ad w) (hr : RdrL ad w lo r bs p o) :
    Calls Tryd.prog 29 #[.pointer (some ⟨r, 0, none⟩), .int .i64 most] w (GivesTextR ad w lo r bs (textR bs most p o)) := by
  have hn := num_any 0 most w hE hr
  have c1 : w.cell? ⟨r, 1, none⟩ = some (.int .i64 p) := by
    obtain ⟨v, h, _⟩ := hr
    obtain ⟨A, c, hb, _⟩ := h.blk
    exact hb.cell 1
  have hple : p ≤ bs.length := by
    obtain ⟨v, h, _⟩ := hr
    exact h.le
  obtain ⟨a, ha⟩ : ∃ a, numR bs 0 most p o = a := ⟨_, rfl⟩
  rw [ha] at hn
  have HT : Hid (textR bs most p o = textAt bs p a) := by rw [Hid, textR, ha]
  obtain ⟨x, q, o'⟩ := a
  cases o' with
  | some k =>
    clear hr ha
    go_enter Tryd.func29, Tryd.ntmps29
    go_wp2_with fail
    refine hn.mono ?_
    rintro e w1 ⟨rfl, hR, he⟩
    have hR : RdrL ad w1 lo r bs q (some k) := hR
    have c2 : ∃ B, w1.cell? ⟨r, 2, none⟩ = some (.iface 106 (.pointer (some ⟨B, 0, none⟩))) := by
      obtain ⟨v, h, B, rfl, _⟩ := hR
      obtain ⟨A, c, hb, _⟩ := h.blk
      exact ⟨B, hb.cell 2⟩
    obtain ⟨B, c2⟩ := c2
    clear hn
    go_wp2_with fail
    go_ret
    rw [HT.out]
    exact ⟨rfl, hR, he⟩
  | none =>
    obtain ⟨h0, _, hpq⟩ := numR_none ha
    clear ha
    by_cases hlong : (bs.length : Int) - q < x
    · have hz : textAt bs p (x, q, none) = (ByteArray.empty, p, some (101, p)) := if_pos hlong
      rw [hz] at HT
      clear hz
      have hne : 1 ≠ r := by
        obtain ⟨v, h, _⟩ := hr
        obtain ⟨A, c, hb, _⟩ := h.blk
        exact blk_not_var hb hE.end_ (u := .slice A bs.length c) rfl (fun v h => by cases h)
      go_enter Tryd.func29, Tryd.ntmps29
      go_wp2_with fail
      refine hn.mono ?_
      rintro e w1 ⟨rfl, ⟨v, hR, hv⟩, he⟩
      have hv : v = .nilIface := hv
      subst hv
      have hR : RdrIs w1 lo r bs q .nilIface := hR
      have g1 : w1.cell? ⟨1, 0, none⟩ = some (.iface 136 (.pointer (some (ad 101)))) := (he.cell (lt_of_cell hE.end_) hne).trans hE.end_
      have c2 : w1.cell? ⟨r, 2, none⟩ = some .nilIface := by
        obtain ⟨A, c, hb, _⟩ := hR.blk
        exact hb.cell 2
      have c3 : w1.cell? ⟨r, 1, none⟩ = some (.int .i64 q) := by
        obtain ⟨A, c, hb, _⟩ := hR.blk
        exact hb.cell 1
      have hf : ∀ o, w1.frozen? ⟨r, o, none⟩ = false := by
        obtain ⟨A, c, hb, _⟩ := hR.blk
        exact hb.frozen
      clear hn
      go_wp2_with fail
      refine (left_any _ hR).mono ?_
      rintro e w2 ⟨rfl, j, rfl⟩
      have hB := below_drewN (Below.refl w1.heap.size w1) j
      have hM := (hR.on hB).move hple
      have hF := fail_any (ad := ad) 101 _ hM (by decide)
      have hE2 := he.step ((Eff.of_below (S := (· = r)) hB).step ((Eff.one r _).set 1 (.int .i64 (p : Int))) (fun _ _ h => h)) (fun _ _ h => h)
      rw [errV_ne ad (by decide)] at hF
      clear hM hB hR he hr
      go_wp2_with fail
      refine hF.mono ?_
      rintro e w3 ⟨rfl, hR3, he3⟩
      clear hF
      go_wp2_with fail
      go_ret
      rw [HT.out]
      exact ⟨rfl, hR3, hE2.step he3 (fun _ _ h => h)⟩
    · obtain ⟨m, rfl⟩ : ∃ m : Nat, x = (m : Int) := ⟨x.toNat, by omega⟩
      have hz : textAt bs p ((m : Int), q, none) = (strOfNums ((bs.drop q).take m), q + m, none) := (if_neg hlong).trans (by rw [Int.toNat_natCast])
      rw [hz] at HT
      clear hz
      have hlong' : (m : Int) ≤ (bs.length : Int) - q := by omega
      go_enter Tryd.func29, Tryd.ntmps29
      go_wp2_with fail
      refine hn.mono ?_
      rintro e w1 ⟨rfl, ⟨v, hR, hv⟩, he⟩
      have hv : v = .nilIface := hv
      subst hv
      have hR : RdrIs w1 lo r bs q .nilIface := hR
      obtain ⟨A, c, hb, hs, hA⟩ := hR.blk
      have c2 : w1.cell? ⟨r, 2, none⟩ = some .nilIface := hb.cell 2
      have c3 : w1.cell? ⟨r, 1, none⟩ = some (.int .i64 q) := hb.cell 1
      have c4 : w1.cell? ⟨r, 0, none⟩ = some (.slice A bs.length c) := hb.cell 0
      have hf : ∀ o, w1.frozen? ⟨r, o, none⟩ = false := hb.frozen
      clear hn hr
      go_wp2_with fail
      refine (left_any _ hR).mono ?_
      rintro e w2 ⟨rfl, j, rfl⟩
      have hB := below_drewN (Below.refl w1.heap.size w1) j
      have hM := (hR.on hB).move (show q + m ≤ bs.length by omega)
      have hE2 := he.step ((Eff.of_below (S := (· = r)) hB).step ((Eff.one r _).set 1 (.int .i64 ((q + m : Nat) : Int))) (fun _ _ h => h)) (fun _ _ h => h)
      have hqm : q + m ≤ bs.length := by omega
      have hlen := hR.len
      have hw : IntKind.i64.wrap (q : Int) = q := by rw [IntKind.wrap_i64]; omega
      obtain ⟨b, o, rfl, hbw, hcx⟩ := hs.at (by rw [List.length_map]; omega)
      have hcap := (hA _ rfl).2.2
      have hbr : b < r := (hA _ rfl).2.1
      have hc1 : 0 ≤ (q : Int) + m ∧ (q : Int) + m ≤ c := by omega
      have hc2 : q ≤ ((q : Int) + m).toNat := by omega
      have hc3 : ((q : Int) + m).toNat - q = m := by omega
      have hconv : ∀ n, (convert 23 9 (.slice (if c = q then some ⟨b, o, none⟩ else some ⟨b, o + q, none⟩) m (c - q))).run Tryd.prog (((w1.drewN j).setCell ⟨r, 1, none⟩ (.int .i64 (↑q + ↑m))).drewN n) = .ok (.string (strOfNums ((bs.drop q).take m))) (((w1.drewN j).setCell ⟨r, 1, none⟩ (.int .i64 (↑q + ↑m))).drewN n) := by
        intro n
        have hlm : ((bs.drop q).take m).length = m := by rw [List.length_take, List.length_drop]; omega
        by_cases hcq : c = q
        · rw [if_pos hcq]
          exact run_convert_bytes_arg _ 23 5 Tryd.underlying23 Tryd.underlying5 b o m (c - q) _ hlm (fun i hi => by omega) _ Tryd.underlying9
        · rw [if_neg hcq]
          refine run_convert_bytes_arg _ 23 5 Tryd.underlying23 Tryd.underlying5 b (o + q) m (c - q) _ hlm (fun i hi => ?_) _ Tryd.underlying9
          have h1 := hcx (q + i) (by rw [List.length_map]; omega)
          have h2 : (((w1.drewN j).setCell ⟨r, 1, none⟩ (.int .i64 (↑q + ↑m))).drewN n).cell? ⟨b, o + q + i, none⟩ = w1.cell? ⟨b, o + (q + i), none⟩ := by
            rw [Nat.add_assoc]
            exact World.cell?_setCell_other _ _ _ _ (fun h => by have h1 : r = b := congrArg Addr.block h; omega)
          rw [h2, h1]
          simp [List.getD_eq_getElem?_getD, List.getElem?_take, hi, List.getElem?_drop, List.getElem?_eq_getElem (show q + i < bs.length by omega)]
      clear hB hR he hlong hlong' hs hcx hA hb
      by_cases hcq : c = q
      · obtain rfl : m = 0 := by omega
        simp only [if_pos hcq] at hconv
        subst hcq
        rw [Nat.sub_self] at hconv
        rw [show ((0 : Nat) : Int) = 0 from rfl, Int.add_zero] at *
        have hc4 : 0 ≤ (c : Int) := by omega
        go_wp2_with fail
        go_quiet (fail)
        go_wp2_with fail
        go_ret
        rw [HT.out]
        exact ⟨rfl, ⟨_, hM.on (below_drewN (Below.refl _ _) _), rfl⟩, hE2.step (Eff.of_below (below_drewN (Below.refl _ _) _)) (fun _ _ h => h)⟩
      · simp only [if_neg hcq] at hconv
        go_wp2_with fail
        go_quiet (fail)
        go_wp2_with fail
        go_ret
        rw [HT.out]
        exact ⟨rfl, ⟨_, hM.on (below_drewN (Below.refl _ _) _), rfl⟩, hE2.step (Eff.of_below (below_drewN (Below.refl _ _) _)) (fun _ _ h => h)⟩
end Go.Proofs.YtogcbiooddodlaaDoor
