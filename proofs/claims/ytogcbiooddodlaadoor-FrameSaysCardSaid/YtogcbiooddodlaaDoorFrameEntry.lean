/- Frames: what entry does. -/
import Derived.Test.YtogcbiooddodlaaDoorFrameTok
namespace Go.Proofs.YtogcbiooddodlaaDoor
open Go.RowKit
set_option linter.unusedSimpArgs false

/-- A ring as a value. -/
abbrev ringV (count founder hop : Int) (MA : Option Addr) (mn mc : Nat) (EA : Option Addr) (en ec : Nat) : Array Value := #[.int .i64 count, .int .i64 founder, .int .i64 hop, .slice MA mn mc, .slice EA en ec]
structure RingIs (w : World) (MA : Option Addr) (ms : List Int) (EA : Option Addr) (es : List EntL) : Prop where
  mem : Sl w MA (ms.map (Value.int .i64))
  ent : Sl w EA (es.flatMap EntL.cells)
  bid : ∀ e ∈ es, EntL.here w e
  lens : ms.length ≤ 100000 ∧ es.length ≤ 100000 ∧ ∀ e ∈ es, e.bids.length ≤ 9223372036854775807
theorem RingIs.on {w w' : World} {MA EA : Option Addr} {ms : List Int} {es : List EntL} (h : RingIs w MA ms EA es) (hb : Below w.heap.size w w') : RingIs w' MA ms EA es :=
  ⟨It2 h.mem hb, It2 h.ent hb, fun e he => EntL.on (h.bid e he) hb, h.lens⟩
theorem ent_cell {w : World} {b o : Nat} {es : List EntL} {k j : Nat} {e : EntL} (hc : ∀ i, i < (es.flatMap EntL.cells).length → w.cell? ⟨b, o + i, none⟩ = (es.flatMap EntL.cells)[i]?) (he : es[k]? = some e) (hj : j < 5) : w.cell? ⟨b, o + (k * 5 + j), none⟩ = e.cells[j]? := by
  have hk : k < es.length := (List.getElem?_eq_some_iff.1 he).1
  rw [hc (k * 5 + j) (by rw [flat_length EntL.len]; omega)]
  have := flat_get EntL.len es [] k j e he hj
  simpa using this
theorem bid_cell {w : World} {b o : Nat} {bs : List (Int × Int)} {k j : Nat} {e : Int × Int} (hc : ∀ i, i < (bs.flatMap bidC).length → w.cell? ⟨b, o + i, none⟩ = (bs.flatMap bidC)[i]?) (he : bs[k]? = some e) (hj : j < 2) : w.cell? ⟨b, o + (k * 2 + j), none⟩ = (bidC e)[j]? := by
  have hk : k < bs.length := (List.getElem?_eq_some_iff.1 he).1
  rw [hc (k * 2 + j) (by rw [flat_length bidC_len]; omega)]
  have := flat_get bidC_len bs [] k j e he hj
  simpa using this
theorem bids_next {ms : List Int} {bids : List (Int × Int)} {m : Nat} {b : Int × Int} (hb : bids[m]? = some b) (hg : ∀ x ∈ bids.take m, badBid ms x = false) (h : badBid ms b = false) : ∀ x ∈ bids.take (m + 1), badBid ms x = false := by
  intro x hx
  rw [List.take_add_one, hb] at hx
  rcases List.mem_append.1 hx with h1 | h1
  · exact hg x h1
  · simp only [Option.toList_some, List.mem_singleton] at h1
    rw [h1]; exact h
def BidRel (W w : World) (ms : List Int) (bids : List (Int × Int)) (i : Value) : Prop := Below W.heap.size W w ∧ ∃ k : Nat, k ≤ bids.length ∧ i = .int .i64 k ∧ ∀ b ∈ bids.take k, badBid ms b = false
def RiseRel (w wr : World) (bids : List (Int × Int)) (i : Value) : Prop := Below w.heap.size w wr ∧ ∃ k : Nat, 1 ≤ k ∧ (k = 1 ∨ k ≤ bids.length) ∧ i = .int .i64 k ∧ ∀ j, j + 1 < k → (bids.map (·.1)).getD j 0 < (bids.map (·.1)).getD (j + 1) 0
set_option maxRecDepth 100000 in
set_option maxHeartbeats 2000000 in
theorem entry_any {ad : Int → Addr} (count founder hop : Int) (MA : Option Addr) (mc : Nat) (ms : List Int) (EA : Option Addr) (ec : Nat) (es : List EntL) (k : Nat) (hk : k < es.length) (w : World) (hE : ErrsV ad w) (hR : RingIs w MA ms EA es) :
    Calls Tryd.prog 72 #[.agg (ringV count founder hop MA ms.length mc EA es.length ec), .int .i64 k] w (GivesErrB ad w (entAt ms es k)) := by
  obtain ⟨e, he⟩ : ∃ e, es[k]? = some e := ⟨es[k], List.getElem?_eq_getElem hk⟩
  obtain ⟨b0, o0, rfl, hbw, hcx⟩ := hR.ent.at (by rw [flat_length EntL.len]; omega)
  have e0 : w.cell? ⟨b0, o0 + k * 5, none⟩ = some (.int .i64 e.floor) := ent_cell hcx he (j := 0) (by omega)
  have e1 : w.cell? ⟨b0, o0 + k * 5 + 1, none⟩ = some (.int .i64 e.dir) := ent_cell hcx he (j := 1) (by omega)
  have e2 : w.cell? ⟨b0, o0 + k * 5 + 2, none⟩ = some (.int .i64 e.gen) := ent_cell hcx he (j := 2) (by omega)
  have e3 : w.cell? ⟨b0, o0 + k * 5 + 3, none⟩ = some (.slice e.A e.bids.length e.c) := ent_cell hcx he (j := 3) (by omega)
  have e4 : w.cell? ⟨b0, o0 + k * 5 + 4, none⟩ = some (.int .i64 e.award) := ent_cell hcx he (j := 4) (by omega)
  have hk' : (k : Int) < es.length := by omega
  have HC := hid hcx
  clear hcx
  go_enter Tryd.func72, Tryd.ntmps72
  go_upto_region 3 with (fail)
  have hx1 := ((Blk.new w [.int .i64 count, .int .i64 founder, .int .i64 hop, .slice MA ms.length mc, .slice (some ⟨b0, o0, none⟩) es.length ec] 53).alloc (.cells #[.int .i64 e.floor, .int .i64 e.dir, .int .i64 e.gen, .slice e.A e.bids.length e.c, .int .i64 e.award] 62)).alloc (.cells #[.int .i64 e.floor, .int .i64 e.dir] 55)
  have hx2 := (Blk.new (w.alloc (.cells #[.int .i64 count, .int .i64 founder, .int .i64 hop, .slice MA ms.length mc, .slice (some ⟨b0, o0, none⟩) es.length ec] 53)) [.int .i64 e.floor, .int .i64 e.dir, .int .i64 e.gen, .slice e.A e.bids.length e.c, .int .i64 e.award] 62).alloc (.cells #[.int .i64 e.floor, .int .i64 e.dir] 55)
  have hx3 := Blk.new ((w.alloc (.cells #[.int .i64 count, .int .i64 founder, .int .i64 hop, .slice MA ms.length mc, .slice (some ⟨b0, o0, none⟩) es.length ec] 53)).alloc (.cells #[.int .i64 e.floor, .int .i64 e.dir, .int .i64 e.gen, .slice e.A e.bids.length e.c, .int .i64 e.award] 62)) [.int .i64 e.floor, .int .i64 e.dir] 55
  rw [show (w.alloc (.cells #[.int .i64 count, .int .i64 founder, .int .i64 hop, .slice MA ms.length mc, .slice (some ⟨b0, o0, none⟩) es.length ec] 53)).heap.size = w.heap.size + 1 from by simp] at hx2
  rw [show ((w.alloc (.cells #[.int .i64 count, .int .i64 founder, .int .i64 hop, .slice MA ms.length mc, .slice (some ⟨b0, o0, none⟩) es.length ec] 53)).alloc (.cells #[.int .i64 e.floor, .int .i64 e.dir, .int .i64 e.gen, .slice e.A e.bids.length e.c, .int .i64 e.award] 62)).heap.size = w.heap.size + 1 + 1 from by simp] at hx3
  have hb3 : Below w.heap.size w (((w.alloc (.cells #[.int .i64 count, .int .i64 founder, .int .i64 hop, .slice MA ms.length mc, .slice (some ⟨b0, o0, none⟩) es.length ec] 53)).alloc (.cells #[.int .i64 e.floor, .int .i64 e.dir, .int .i64 e.gen, .slice e.A e.bids.length e.c, .int .i64 e.award] 62)).alloc (.cells #[.int .i64 e.floor, .int .i64 e.dir] 55)) := (((Below.refl _ _).alloc (Nat.le_refl _) _).alloc (by simp) _).alloc (by simp; omega) _
  have hx1 : Blk (((w.alloc (.cells #[.int .i64 count, .int .i64 founder, .int .i64 hop, .slice MA ms.length mc, .slice (some ⟨b0, o0, none⟩) es.length ec] 53)).alloc (.cells #[.int .i64 e.floor, .int .i64 e.dir, .int .i64 e.gen, .slice e.A e.bids.length e.c, .int .i64 e.award] 62)).alloc (.cells #[.int .i64 e.floor, .int .i64 e.dir] 55)) w.heap.size [.int .i64 count, .int .i64 founder, .int .i64 hop, .slice MA ms.length mc, .slice (some ⟨b0, o0, none⟩) es.length ec] 53 := hx1
  have hx2 : Blk (((w.alloc (.cells #[.int .i64 count, .int .i64 founder, .int .i64 hop, .slice MA ms.length mc, .slice (some ⟨b0, o0, none⟩) es.length ec] 53)).alloc (.cells #[.int .i64 e.floor, .int .i64 e.dir, .int .i64 e.gen, .slice e.A e.bids.length e.c, .int .i64 e.award] 62)).alloc (.cells #[.int .i64 e.floor, .int .i64 e.dir] 55)) (w.heap.size + 1) [.int .i64 e.floor, .int .i64 e.dir, .int .i64 e.gen, .slice e.A e.bids.length e.c, .int .i64 e.award] 62 := hx2
  have hx3 : Blk (((w.alloc (.cells #[.int .i64 count, .int .i64 founder, .int .i64 hop, .slice MA ms.length mc, .slice (some ⟨b0, o0, none⟩) es.length ec] 53)).alloc (.cells #[.int .i64 e.floor, .int .i64 e.dir, .int .i64 e.gen, .slice e.A e.bids.length e.c, .int .i64 e.award] 62)).alloc (.cells #[.int .i64 e.floor, .int .i64 e.dir] 55)) (w.heap.size + 1 + 1) [.int .i64 e.floor, .int .i64 e.dir] 55 := hx3
  generalize ((w.alloc (.cells #[.int .i64 count, .int .i64 founder, .int .i64 hop, .slice MA ms.length mc, .slice (some ⟨b0, o0, none⟩) es.length ec] 53)).alloc (.cells #[.int .i64 e.floor, .int .i64 e.dir, .int .i64 e.gen, .slice e.A e.bids.length e.c, .int .i64 e.award] 62)).alloc (.cells #[.int .i64 e.floor, .int .i64 e.dir] 55) = w3 at *
  obtain ⟨fl, di, ge, aw, bids, bA, bc⟩ := e
  have k0 : w3.cell? ⟨w.heap.size + 1 + 1, 0, none⟩ = some (.int .i64 fl) := hx3.cell 0
  have k1 : w3.cell? ⟨w.heap.size + 1 + 1, 1, none⟩ = some (.int .i64 di) := hx3.cell 1
  have k2 : w3.cell? ⟨w.heap.size + 1, 2, none⟩ = some (.int .i64 ge) := hx2.cell 2
  have k4 : w3.cell? ⟨w.heap.size + 1, 4, none⟩ = some (.int .i64 aw) := hx2.cell 4
  have r3 : w3.cell? ⟨w.heap.size, 3, none⟩ = some (.slice MA ms.length mc) := hx1.cell 3
  have hcn := contains_any MA mc ms aw w3 (It2 hR.mem hb3) (by have := hR.lens.1; omega)
  have HX := hid (And.intro hx1 (And.intro hx2 (And.intro hx3 hb3)))
  have HA := hid (And.intro he (And.intro hR hE))
  clear hx1 hx2 hx3 hb3 he hR hE e0 e1 e2 e3 e4
  go_cut [18] (fun v wx => v = .bool (decide (badCall ms ⟨fl, di, ge, aw, bids, bA, bc⟩)) ∧ wx = w3)
  case first =>
    --<
    by_cases h1 : fl < 0
    · have HO := hid (decide_eq_true (show badCall ms ⟨fl, di, ge, aw, bids, bA, bc⟩ from by unfold badCall; simp only; exact .inl h1))
      go_wp2_with fail
      go_meet
      exact ⟨by rw [HO.out], rfl⟩
    have h1' : 0 ≤ fl := by omega
    by_cases h2 : 64 ≤ fl
    · have HO := hid (decide_eq_true (show badCall ms ⟨fl, di, ge, aw, bids, bA, bc⟩ from by unfold badCall; simp only; omega))
      go_wp2_with fail
      go_meet
      exact ⟨by rw [HO.out], rfl⟩
    have h2' : fl < 64 := by omega
    by_cases h3 : di = 1
    · subst h3
      by_cases h4 : ge < 1
      · have HO := hid (decide_eq_true (show badCall ms ⟨fl, 1, ge, aw, bids, bA, bc⟩ from by unfold badCall; simp only; omega))
        go_wp2_with fail
        go_meet
        exact ⟨by rw [HO.out], rfl⟩
      have h4' : 1 ≤ ge := by omega
      by_cases h5 : 2147483647 < ge
      · have HO := hid (decide_eq_true (show badCall ms ⟨fl, 1, ge, aw, bids, bA, bc⟩ from by unfold badCall; simp only; omega))
        go_wp2_with fail
        go_meet
        exact ⟨by rw [HO.out], rfl⟩
      have h5' : ge ≤ 2147483647 := by omega
      by_cases h6 : aw = -1
      · subst h6
        have HO := hid (decide_eq_false (show ¬ badCall ms ⟨fl, 1, ge, (-1), bids, bA, bc⟩ from by unfold badCall; simp only; omega))
        go_wp2_with fail
        go_meet
        exact ⟨by rw [HO.out], rfl⟩
      have h6b : (aw != -1) = true := by simpa using h6
      by_cases h7 : aw ∈ ms
      · rw [decide_eq_true h7] at hcn
        have HO := hid (decide_eq_false (show ¬ badCall ms ⟨fl, 1, ge, aw, bids, bA, bc⟩ from by unfold badCall; simp only; intro q; rcases q with q | q | q | q | q | q; all_goals first | omega | exact q.2 h7 | exact absurd rfl q.1 | exact absurd rfl q.2))
        clear h6 h7
        go_wp2_with fail
        refine hcn.mono ?_
        rintro e w' ⟨rfl, rfl⟩
        go_wp2_with fail
        go_meet
        exact ⟨by rw [HO.out], rfl⟩
      · rw [decide_eq_false h7] at hcn
        have HO := hid (decide_eq_true (show badCall ms ⟨fl, 1, ge, aw, bids, bA, bc⟩ from by unfold badCall; simp only; exact .inr (.inr (.inr (.inr (.inr ⟨h6, h7⟩))))))
        clear h6 h7
        go_wp2_with fail
        refine hcn.mono ?_
        rintro e w' ⟨rfl, rfl⟩
        go_wp2_with fail
        go_meet
        exact ⟨by rw [HO.out], rfl⟩
    have h3b : (di != 1) = true := by simpa using h3
    by_cases h3m : di = -1
    · subst h3m
      by_cases h4 : ge < 1
      · have HO := hid (decide_eq_true (show badCall ms ⟨fl, (-1), ge, aw, bids, bA, bc⟩ from by unfold badCall; simp only; omega))
        go_wp2_with fail
        go_meet
        exact ⟨by rw [HO.out], rfl⟩
      have h4' : 1 ≤ ge := by omega
      by_cases h5 : 2147483647 < ge
      · have HO := hid (decide_eq_true (show badCall ms ⟨fl, (-1), ge, aw, bids, bA, bc⟩ from by unfold badCall; simp only; omega))
        go_wp2_with fail
        go_meet
        exact ⟨by rw [HO.out], rfl⟩
      have h5' : ge ≤ 2147483647 := by omega
      by_cases h6 : aw = -1
      · subst h6
        have HO := hid (decide_eq_false (show ¬ badCall ms ⟨fl, (-1), ge, (-1), bids, bA, bc⟩ from by unfold badCall; simp only; omega))
        go_wp2_with fail
        go_meet
        exact ⟨by rw [HO.out], rfl⟩
      have h6b : (aw != -1) = true := by simpa using h6
      by_cases h7 : aw ∈ ms
      · rw [decide_eq_true h7] at hcn
        have HO := hid (decide_eq_false (show ¬ badCall ms ⟨fl, (-1), ge, aw, bids, bA, bc⟩ from by unfold badCall; simp only; intro q; rcases q with q | q | q | q | q | q; all_goals first | omega | exact q.2 h7 | exact absurd rfl q.1 | exact absurd rfl q.2))
        clear h6 h7
        go_wp2_with fail
        refine hcn.mono ?_
        rintro e w' ⟨rfl, rfl⟩
        go_wp2_with fail
        go_meet
        exact ⟨by rw [HO.out], rfl⟩
      · rw [decide_eq_false h7] at hcn
        have HO := hid (decide_eq_true (show badCall ms ⟨fl, (-1), ge, aw, bids, bA, bc⟩ from by unfold badCall; simp only; exact .inr (.inr (.inr (.inr (.inr ⟨h6, h7⟩))))))
        clear h6 h7
        go_wp2_with fail
        refine hcn.mono ?_
        rintro e w' ⟨rfl, rfl⟩
        go_wp2_with fail
        go_meet
        exact ⟨by rw [HO.out], rfl⟩
    have h3c : (di != -1) = true := by simpa using h3m
    have HO := hid (decide_eq_true (show badCall ms ⟨fl, di, ge, aw, bids, bA, bc⟩ from by unfold badCall; simp only; exact .inr (.inr (.inl ⟨h3, h3m⟩))))
    clear h3 h3m
    go_wp2_with fail
    go_meet
    exact ⟨by rw [HO.out], rfl⟩
    -->
  case rest =>
  obtain ⟨rfl, hwx⟩ := hcut
  obtain rfl : w3 = _ := hwx.symm
  have hE3 := HA.out.2.2.below HX.out.2.2.2
  have g1 := hE3.range
  have HW : Hid (Below w.heap.size w w3) := HX.out.2.2.2
  by_cases hB : badCall ms ⟨fl, di, ge, aw, bids, bA, bc⟩
  · have HO : Hid (entAt ms es k = 103) := by
      rw [Hid, entAt, HA.out.1]
      exact if_pos hB
    rw [decide_eq_true hB]
    clear hB
    go_wp2_with fail
    go_ret
    exact ⟨by rw [HO.out]; rfl, HW.out⟩
  rw [decide_eq_false hB]
  have HB := hid hB
  clear hB hcn g1 k0 k1 k2 k4
  have hR3 := HA.out.2.1.on HW.out
  have hEq3 : w3.cell? ⟨w.heap.size, 4, none⟩ = some (.slice (some ⟨b0, o0, none⟩) es.length ec) := HX.out.1.cell 4
  have q0 : w3.cell? ⟨w.heap.size + 1 + 1, 0, none⟩ = some (.int .i64 fl) := HX.out.2.2.1.cell 0
  have q1 : w3.cell? ⟨w.heap.size + 1 + 1, 1, none⟩ = some (.int .i64 di) := HX.out.2.2.1.cell 1
  go_upto_region 5 with (fail)
  go_cut [63] (fun v wx => v = .bool (outOfRow (if k = 0 then none else es[k - 1]?) ⟨fl, di, ge, aw, bids, bA, bc⟩) ∧ Below w3.heap.size w3 wx)
  case first =>
    --<
    by_cases hk0 : k = 0
    · subst hk0
      have hd : decide ((0 : Int) < ((0 : Nat) : Int)) = false := by decide
      go_wp2_with fail
      refine wp_region_held_drew (S := fun _ => True) (by kernel_rfl) ?_ (fun hHeld => ?_)
      · (try dsimp only); (try trivial)
      refine held_take 0 ?_ rfl (by kernel_rfl) (by kernel_rfl) (by kernel_rfl) (fun _ _ _ h => h) (by rfl) ?_ hHeld ?_
      rotate_left
      · (intro w hSw; (try dsimp only at hSw); go_simp; try with_reducible rfl)
      try simp only [Act.put, List.setIfInBounds_toArray, List.set_cons_zero, List.set_cons_succ]
      refine held_take 1 ?_ rfl (by kernel_rfl) (by kernel_rfl) (by kernel_rfl) (fun _ _ _ h => h) (by rfl) ?_ hHeld ?_
      rotate_left
      · (intro w hSw; (try dsimp only at hSw); go_simp; try with_reducible rfl)
      try simp only [Act.put, List.setIfInBounds_toArray, List.set_cons_zero, List.set_cons_succ]
      refine held_take 2 ?_ rfl (by kernel_rfl) (by kernel_rfl) (by kernel_rfl) (fun _ _ _ h => h) (by rfl) ?_ hHeld ?_
      rotate_left
      · (intro w hSw; (try dsimp only at hSw); go_simp; try with_reducible rfl)
      try simp only [Act.put, List.setIfInBounds_toArray, List.set_cons_zero, List.set_cons_succ]
      refine held_skip 3 rfl (by kernel_rfl) (by kernel_rfl) (by kernel_rfl) (fun _ _ _ h => h) (by rfl) hHeld ?_
      try simp only [Act.put, List.setIfInBounds_toArray, List.set_cons_zero, List.set_cons_succ]
      refine held_skip 4 rfl (by kernel_rfl) (by kernel_rfl) (by kernel_rfl) (fun _ _ _ h => h) (by rfl) hHeld ?_
      try simp only [Act.put, List.setIfInBounds_toArray, List.set_cons_zero, List.set_cons_succ]
      refine held_skip 5 rfl (by kernel_rfl) (by kernel_rfl) (by kernel_rfl) (fun _ _ _ h => h) (by rfl) hHeld ?_
      try simp only [Act.put, List.setIfInBounds_toArray, List.set_cons_zero, List.set_cons_succ]
      refine held_skip 6 rfl (by kernel_rfl) (by kernel_rfl) (by kernel_rfl) (fun _ _ _ h => h) (by rfl) hHeld ?_
      try simp only [Act.put, List.setIfInBounds_toArray, List.set_cons_zero, List.set_cons_succ]
      refine held_skip 7 rfl (by kernel_rfl) (by kernel_rfl) (by kernel_rfl) (fun _ _ _ h => h) (by rfl) hHeld ?_
      try simp only [Act.put, List.setIfInBounds_toArray, List.set_cons_zero, List.set_cons_succ]
      refine held_skip 8 rfl (by kernel_rfl) (by kernel_rfl) (by kernel_rfl) (fun _ _ _ h => h) (by rfl) hHeld ?_
      try simp only [Act.put, List.setIfInBounds_toArray, List.set_cons_zero, List.set_cons_succ]
      refine held_skip 9 rfl (by kernel_rfl) (by kernel_rfl) (by kernel_rfl) (fun _ _ _ h => h) (by rfl) hHeld ?_
      try simp only [Act.put, List.setIfInBounds_toArray, List.set_cons_zero, List.set_cons_succ]
      refine held_skip 10 rfl (by kernel_rfl) (by kernel_rfl) (by kernel_rfl) (fun _ _ _ h => h) (by rfl) hHeld ?_
      try simp only [Act.put, List.setIfInBounds_toArray, List.set_cons_zero, List.set_cons_succ]
      refine held_skip 11 rfl (by kernel_rfl) (by kernel_rfl) (by kernel_rfl) (fun _ _ _ h => h) (by rfl) hHeld ?_
      try simp only [Act.put, List.setIfInBounds_toArray, List.set_cons_zero, List.set_cons_succ]
      refine held_skip 12 rfl (by kernel_rfl) (by kernel_rfl) (by kernel_rfl) (fun _ _ _ h => h) (by rfl) hHeld ?_
      try simp only [Act.put, List.setIfInBounds_toArray, List.set_cons_zero, List.set_cons_succ]
      refine held_skip 13 rfl (by kernel_rfl) (by kernel_rfl) (by kernel_rfl) (fun _ _ _ h => h) (by rfl) hHeld ?_
      try simp only [Act.put, List.setIfInBounds_toArray, List.set_cons_zero, List.set_cons_succ]
      refine held_take 14 ?_ rfl (by kernel_rfl) (by kernel_rfl) (by kernel_rfl) (fun _ _ _ h => h) (by rfl) ?_ hHeld ?_
      rotate_left
      · (intro w hSw; (try dsimp only at hSw); go_simp; try with_reducible rfl)
      try simp only [Act.put, List.setIfInBounds_toArray, List.set_cons_zero, List.set_cons_succ]
      refine held_take 15 ?_ rfl (by kernel_rfl) (by kernel_rfl) (by kernel_rfl) (fun _ _ _ h => h) (by rfl) ?_ hHeld ?_
      rotate_left
      · (intro w hSw; (try dsimp only at hSw); go_simp; try with_reducible rfl)
      try simp only [Act.put, List.setIfInBounds_toArray, List.set_cons_zero, List.set_cons_succ]
      refine wpAnyH_done (by kernel_rfl) ?_ _
      clear hHeld
      go_wp2_with fail
      go_meet
      exact ⟨rfl, (Below.refl _ _).drew⟩
    · obtain ⟨m, rfl⟩ : ∃ m, k = m + 1 := ⟨k - 1, by omega⟩
      obtain ⟨p, hp⟩ : ∃ p, es[m]? = some p := ⟨es[m], List.getElem?_eq_getElem (by omega)⟩
      have p0 : w3.cell? ⟨b0, o0 + m * 5, none⟩ = some (.int .i64 p.floor) := (HW.out.cell (p := ⟨b0, o0 + m * 5, none⟩) hbw).trans (ent_cell HC.out hp (j := 0) (by omega))
      have p1 : w3.cell? ⟨b0, o0 + m * 5 + 1, none⟩ = some (.int .i64 p.dir) := (HW.out.cell (p := ⟨b0, o0 + m * 5 + 1, none⟩) hbw).trans (ent_cell HC.out hp (j := 1) (by omega))
      have hm : m < es.length := by omega
      have hm' : (m : Int) < es.length := by omega
      have hO : outOfRow (if m + 1 = 0 then none else es[m + 1 - 1]?) ⟨fl, di, ge, aw, bids, bA, bc⟩ = decide (0 ≤ cmpC p.floor p.dir fl di) := by
        rw [if_neg (by omega), show m + 1 - 1 = m from rfl, hp]
        rfl
      have HO := hid hO
      clear hO
      have hd : decide ((0 : Int) < ((m + 1 : Nat) : Int)) = true := by rw [decide_eq_true_eq]; omega
      have hwr : IntKind.i64.wrap (m : Int) = m := by have := hR3.lens; rw [IntKind.wrap_i64] <;> omega
      have hcm := fun v => compare_any p.floor p.dir fl di v
      go_wp2_with fail
      refine wp_region_held_drew (S := fun w' => w'.cell? ⟨w.heap.size, 4, none⟩ = some (.slice (some ⟨b0, o0, none⟩) es.length ec) ∧ w'.cell? ⟨b0, o0 + m * 5, none⟩ = some (.int .i64 p.floor) ∧ w'.cell? ⟨b0, o0 + m * 5 + 1, none⟩ = some (.int .i64 p.dir) ∧ w'.cell? ⟨w.heap.size + 1 + 1, 0, none⟩ = some (.int .i64 fl) ∧ w'.cell? ⟨w.heap.size + 1 + 1, 1, none⟩ = some (.int .i64 di)) (by kernel_rfl) ?_ (fun hHeld => ?_)
      · (try dsimp only); (first | exact ⟨hEq3, p0, p1, q0, q1⟩ | exact ⟨hEq4, p0', p1', q0', q1'⟩)
      refine held_take 0 ?_ rfl (by kernel_rfl) (by kernel_rfl) (by kernel_rfl) (fun _ _ _ h => h) (by rfl) ?_ hHeld ?_
      rotate_left
      · (intro w hSw; (try dsimp only at hSw); go_simp; try with_reducible rfl)
      try simp only [Act.put, List.setIfInBounds_toArray, List.set_cons_zero, List.set_cons_succ]
      refine held_take 1 ?_ rfl (by kernel_rfl) (by kernel_rfl) (by kernel_rfl) (fun _ _ _ h => h) (by rfl) ?_ hHeld ?_
      rotate_left
      · (intro w hSw; (try dsimp only at hSw); go_simp; try with_reducible rfl)
      try simp only [Act.put, List.setIfInBounds_toArray, List.set_cons_zero, List.set_cons_succ]
      refine held_take 2 ?_ rfl (by kernel_rfl) (by kernel_rfl) (by kernel_rfl) (fun _ _ _ h => h) (by rfl) ?_ hHeld ?_
      rotate_left
      · (intro w hSw; (try dsimp only at hSw); go_simp; try with_reducible rfl)
      try simp only [Act.put, List.setIfInBounds_toArray, List.set_cons_zero, List.set_cons_succ]
      refine held_take 3 ?_ rfl (by kernel_rfl) (by kernel_rfl) (by kernel_rfl) (fun _ _ _ h => h) (by rfl) ?_ hHeld ?_
      rotate_left
      · (intro w hSw; (try dsimp only at hSw); go_simp; try with_reducible rfl)
      try simp only [Act.put, List.setIfInBounds_toArray, List.set_cons_zero, List.set_cons_succ]
      refine held_take 4 ?_ rfl (by kernel_rfl) (by kernel_rfl) (by kernel_rfl) (fun _ _ _ h => h) (by rfl) ?_ hHeld ?_
      rotate_left
      · (intro w hSw; (try dsimp only at hSw); go_simp; try with_reducible rfl)
      try simp only [Act.put, List.setIfInBounds_toArray, List.set_cons_zero, List.set_cons_succ]
      refine held_take 5 ?_ rfl (by kernel_rfl) (by kernel_rfl) (by kernel_rfl) (fun _ _ _ h => h) (by rfl) ?_ hHeld ?_
      rotate_left
      · (intro w hSw; (try dsimp only at hSw); go_simp; try with_reducible rfl)
      try simp only [Act.put, List.setIfInBounds_toArray, List.set_cons_zero, List.set_cons_succ]
      refine held_take 6 ?_ rfl (by kernel_rfl) (by kernel_rfl) (by kernel_rfl) (fun _ _ _ h => h) (by rfl) ?_ hHeld ?_
      rotate_left
      · (intro w hSw; (try dsimp only at hSw); go_simp; try with_reducible rfl)
      try simp only [Act.put, List.setIfInBounds_toArray, List.set_cons_zero, List.set_cons_succ]
      refine held_take 7 ?_ rfl (by kernel_rfl) (by kernel_rfl) (by kernel_rfl) (fun _ _ _ h => h) (by rfl) ?_ hHeld ?_
      rotate_left
      · (intro w hSw; (try dsimp only at hSw); go_simp; try with_reducible rfl)
      try simp only [Act.put, List.setIfInBounds_toArray, List.set_cons_zero, List.set_cons_succ]
      refine held_take 8 ?_ rfl (by kernel_rfl) (by kernel_rfl) (by kernel_rfl) (fun _ _ _ h => h) (by rfl) ?_ hHeld ?_
      rotate_left
      · (intro w hSw; (try dsimp only at hSw); go_simp; try with_reducible rfl)
      try simp only [Act.put, List.setIfInBounds_toArray, List.set_cons_zero, List.set_cons_succ]
      refine held_take 9 ?_ rfl (by kernel_rfl) (by kernel_rfl) (by kernel_rfl) (fun _ _ _ h => h) (by rfl) ?_ hHeld ?_
      rotate_left
      · (intro w hSw; (try dsimp only at hSw); go_simp; try with_reducible rfl)
      try simp only [Act.put, List.setIfInBounds_toArray, List.set_cons_zero, List.set_cons_succ]
      refine held_take 10 ?_ rfl (by kernel_rfl) (by kernel_rfl) (by kernel_rfl) (fun _ _ _ h => h) (by rfl) ?_ hHeld ?_
      rotate_left
      · (intro w hSw; (try dsimp only at hSw); go_simp; try with_reducible rfl)
      try simp only [Act.put, List.setIfInBounds_toArray, List.set_cons_zero, List.set_cons_succ]
      refine held_take 11 ?_ rfl (by kernel_rfl) (by kernel_rfl) (by kernel_rfl) (fun _ _ _ h => h) (by rfl) ?_ hHeld ?_
      rotate_left
      · (intro w hSw; (try dsimp only at hSw); go_simp; try with_reducible rfl)
      try simp only [Act.put, List.setIfInBounds_toArray, List.set_cons_zero, List.set_cons_succ]
      refine held_one 12 rfl (by kernel_rfl) (by rfl) (fun K hK => ?_)
      go_simp
      refine (hcm _).mono ?_
      rintro e w' ⟨rfl, hb4⟩
      have hEq4 := (hb4.cell (lt_of_cell hEq3)).trans hEq3
      have p0' := (hb4.cell (lt_of_cell p0)).trans p0
      have p1' := (hb4.cell (lt_of_cell p1)).trans p1
      have q0' := (hb4.cell (lt_of_cell q0)).trans q0
      have q1' := (hb4.cell (lt_of_cell q1)).trans q1
      refine hK.out _ _ ?_ (fun hHeld2 => ?_)
      · (try dsimp only); (first | exact ⟨hEq3, p0, p1, q0, q1⟩ | exact ⟨hEq4, p0', p1', q0', q1'⟩)
      clear hK K hHeld
      have hHeld := hHeld2
      clear hHeld2
      try simp only [Act.put, List.setIfInBounds_toArray, List.set_cons_zero, List.set_cons_succ]
      refine held_take 13 ?_ rfl (by kernel_rfl) (by kernel_rfl) (by kernel_rfl) (fun _ _ _ h => h) (by rfl) ?_ hHeld ?_
      rotate_left
      · (intro w hSw; (try dsimp only at hSw); go_simp; try with_reducible rfl)
      try simp only [Act.put, List.setIfInBounds_toArray, List.set_cons_zero, List.set_cons_succ]
      refine held_take 14 ?_ rfl (by kernel_rfl) (by kernel_rfl) (by kernel_rfl) (fun _ _ _ h => h) (by rfl) ?_ hHeld ?_
      rotate_left
      · (intro w hSw; (try dsimp only at hSw); go_simp; try with_reducible rfl)
      try simp only [Act.put, List.setIfInBounds_toArray, List.set_cons_zero, List.set_cons_succ]
      refine held_take 15 ?_ rfl (by kernel_rfl) (by kernel_rfl) (by kernel_rfl) (fun _ _ _ h => h) (by rfl) ?_ hHeld ?_
      rotate_left
      · (intro w hSw; (try dsimp only at hSw); go_simp; try with_reducible rfl)
      try simp only [Act.put, List.setIfInBounds_toArray, List.set_cons_zero, List.set_cons_succ]
      refine wpAnyH_done (by kernel_rfl) ?_ _
      clear hHeld
      go_wp2_with fail
      go_meet
      exact ⟨by rw [HO.out], (Below.refl _ _).drew.trans hb4⟩
    -->
  case rest =>
  obtain ⟨rfl, hb4⟩ := hcut
  have HW4 := hid (HW.out.trans (hb4.mono HW.out.size))
  have x1 := (Eff.of_below (S := fun _ => False) hb4).blk HX.out.1 (fun h => h)
  have x2 := (Eff.of_below (S := fun _ => False) hb4).blk HX.out.2.1 (fun h => h)
  have hE4 := HA.out.2.2.below HW4.out
  have hR4 := HA.out.2.1.on HW4.out
  have hbd : EntL.here wc ⟨fl, di, ge, aw, bids, bA, bc⟩ := hR4.bid _ (List.mem_of_getElem? HA.out.1)
  have hbl : bids.length ≤ 9223372036854775807 := hR4.lens.2.2 _ (List.mem_of_getElem? HA.out.1)
  have hml : ms.length ≤ 100000 := hR4.lens.1
  have s3 : wc.cell? ⟨w.heap.size + 1, 3, none⟩ = some (.slice bA bids.length bc) := x2.cell 3
  have r3 : wc.cell? ⟨w.heap.size, 3, none⟩ = some (.slice MA ms.length mc) := x1.cell 3
  have hmem : Sl wc MA (ms.map (Value.int .i64)) := hR4.mem
  have g1 := hE4.range
  have g2 := hE4.many
  have g3 := hE4.twice
  have hEq : entAt ms es k = (if outOfRow (if k = 0 then none else es[k - 1]?) ⟨fl, di, ge, aw, bids, bA, bc⟩ then 111 else if ms.length < bids.length then 104 else if bids.any (badBid ms) then 103 else if rises (bids.map (·.1)) then 0 else 111) := by
    rw [entAt, HA.out.1]
    exact if_neg HB.out
  have HE := hid hEq
  clear hEq HB HA HX HC hE3 hR3 hEq3 q0 q1 hb4 x1 x2 hE4 hR4 hwx HW hbw
  cases hO : outOfRow (if k = 0 then none else es[k - 1]?) ⟨fl, di, ge, aw, bids, bA, bc⟩
  case true =>
    have HO := hid hO
    clear hO hbd hmem
    go_wp2_with fail
    go_ret
    exact ⟨by rw [HE.out, if_pos HO.out]; rfl, HW4.out⟩
  have HO1 : Hid (¬ outOfRow (if k = 0 then none else es[k - 1]?) ⟨fl, di, ge, aw, bids, bA, bc⟩ = true) := by rw [Hid, hO]; simp
  clear hO hk hk'
  by_cases hlen : ms.length < bids.length
  · have hlen' : (ms.length : Int) < bids.length := by omega
    have HL := hid hlen
    clear hlen hbd hmem
    go_wp2_with fail
    go_ret
    exact ⟨by rw [HE.out, if_neg HO1.out, if_pos HL.out]; rfl, HW4.out⟩
  have hlen' : ¬ (ms.length : Int) < bids.length := by omega
  have HL := hid hlen
  clear hlen
  have HM := hid (And.intro hbd (And.intro hmem (And.intro s3 (And.intro r3 (And.intro g1 g3)))))
  clear hbd hmem g1 g2 g3
  go_wp2_with fail
  clear s3 r3 hlen'
  go_loopw [92] (fun i wr => BidRel wc wr ms bids i) (fun i _ => bids.length - (intOf i).toNat)
  case atStart => exact ⟨Below.refl _ _, 0, Nat.zero_le _, rfl, by simp⟩
  case round =>
    obtain ⟨hbr, m, hm, rfl, hgood⟩ := hrel
    have y1 := (Eff.of_below (S := fun _ => False) hbr).cell (b := w.heap.size) (o := 3) (lt_of_cell HM.out.2.2.2.1) (fun h => h)
    have r3 : wr.cell? ⟨w.heap.size, 3, none⟩ = some (.slice MA ms.length mc) := y1.trans HM.out.2.2.2.1
    have HW5 := hid (HW4.out.trans (hbr.mono HW4.out.size))
    have g1 := (hbr.cell (lt_of_cell HM.out.2.2.2.2.1)).trans HM.out.2.2.2.2.1
    by_cases hlt : m < bids.length
    · obtain ⟨b1, o1, hbA, hb1w, hc1⟩ := (show Sl wc bA (bids.flatMap bidC) from HM.out.1).at (by rw [flat_length bidC_len]; omega)
      obtain rfl : bA = _ := hbA
      obtain ⟨b, hb⟩ : ∃ b, bids[m]? = some b := ⟨bids[m], List.getElem?_eq_getElem hlt⟩
      have d0 : wr.cell? ⟨b1, o1 + m * 2, none⟩ = some (.int .i64 b.1) := (hbr.cell (p := ⟨b1, o1 + m * 2, none⟩) hb1w).trans (bid_cell hc1 hb (j := 0) (by omega))
      have d1 : wr.cell? ⟨b1, o1 + m * 2 + 1, none⟩ = some (.int .i64 b.2) := (hbr.cell (p := ⟨b1, o1 + m * 2 + 1, none⟩) hb1w).trans (bid_cell hc1 hb (j := 1) (by omega))
      have hnext : badBid ms b = false → ∀ x ∈ bids.take (m + 1), badBid ms x = false := fun h => bids_next hb hgood h
      have hbad : badBid ms b = true → bids.any (badBid ms) = true := fun h => List.any_eq_true.2 ⟨b, List.mem_of_getElem? hb, h⟩
      have hlt' : (m : Int) < bids.length := by omega
      have hsz : w.heap.size < wr.heap.size := lt_of_cell r3
      have hb2 : Below wr.heap.size wr (wr.alloc (.cells #[.int .i64 b.1, .int .i64 b.2] 59)) := (Below.refl _ _).alloc (Nat.le_refl _) _
      have HB6 := hid (hbr.trans (hb2.mono hbr.size))
      have HW6 := hid (HW5.out.trans (hb2.mono HW5.out.size))
      have hcn := contains_any MA mc ms b.1 _ (It2 (It2 HM.out.2.1 hbr) hb2) (by omega)
      have g1' := (hb2.cell (lt_of_cell g1)).trans g1
      obtain ⟨bc0, bt⟩ := b
      dsimp only at d0 d1 hcn hb2 HB6 HW6 g1'
      have HN := hid (And.intro hnext hbad)
      clear hnext hbad hgood hc1 hb hbr y1 hb2
      by_cases h1 : bc0 ∈ ms
      · rw [decide_eq_true h1] at hcn
        have HI := hid h1
        clear h1
        by_cases h2 : bt < 0
        · have HO : Hid (bids.any (badBid ms) = true) := HN.out.2 (by simp [badBid, h2])
          go_wp2_with fail
          refine hcn.mono ?_
          rintro e w' ⟨rfl, rfl⟩
          go_wp2_with fail
          go_ret
          exact ⟨by rw [HE.out, if_neg HO1.out, if_neg HL.out, if_pos HO.out]; rfl, HW6.out⟩
        have h2' : 0 ≤ bt := by omega
        by_cases h3 : 1048576 < bt
        · have HO : Hid (bids.any (badBid ms) = true) := HN.out.2 (by simp [badBid, h3])
          go_wp2_with fail
          refine hcn.mono ?_
          rintro e w' ⟨rfl, rfl⟩
          go_wp2_with fail
          go_ret
          exact ⟨by rw [HE.out, if_neg HO1.out, if_neg HL.out, if_pos HO.out]; rfl, HW6.out⟩
        have h3' : bt ≤ 1048576 := by omega
        have HK := hid (HN.out.1 (by simp [badBid, HI.out]; omega))
        clear HN
        go_wp2_with fail
        refine hcn.mono ?_
        rintro e w' ⟨rfl, rfl⟩
        go_wp2_with fail
        go_roundw
        case rel => exact ⟨HB6.out, m + 1, by omega, by go_num, HK.out⟩
        case measure => simp [intOf]; omega
      · rw [decide_eq_false h1] at hcn
        have HO : Hid (bids.any (badBid ms) = true) := HN.out.2 (by simp [badBid, h1])
        clear h1 HN
        go_wp2_with fail
        refine hcn.mono ?_
        rintro e w' ⟨rfl, rfl⟩
        go_wp2_with fail
        go_ret
        exact ⟨by rw [HE.out, if_neg HO1.out, if_neg HL.out, if_pos HO.out]; rfl, HW6.out⟩
    · have hm' : m = bids.length := by omega
      have HO : Hid (¬ bids.any (badBid ms) = true) := by
        rw [hm', List.take_length] at hgood
        rw [Hid, List.any_eq_true]
        rintro ⟨x, hx, h⟩
        rw [hgood x hx] at h
        cases h
      have hlt' : ¬ (m : Int) < bids.length := by omega
      have hbl2 : bids.length ≤ 100000 := by have := HL.out; omega
      have s3 : wr.cell? ⟨w.heap.size + 1, 3, none⟩ = some (.slice bA bids.length bc) := ((Eff.of_below (S := fun _ => False) hbr).cell (b := w.heap.size + 1) (o := 3) (lt_of_cell HM.out.2.2.1) (fun h => h)).trans HM.out.2.2.1
      have g3 := (hbr.cell (lt_of_cell HM.out.2.2.2.2.2)).trans HM.out.2.2.2.2.2
      have hbd : Sl wr bA (bids.flatMap bidC) := It2 HM.out.1 hbr
      clear hgood y1 r3 g1
      have HB := hid hbd
      clear hbd hbr hm'
      go_wp2_with fail
      obtain ⟨w5, e5⟩ : ∃ w5, w5 = wr := ⟨_, rfl⟩
      subst e5
      have HS := hid (And.intro s3 g3)
      clear s3 g3
      go_loopw [9] (fun i wr => RiseRel w5 wr bids i) (fun i _ => bids.length - (intOf i).toNat)
      case atStart => exact ⟨Below.refl _ _, 1, by omega, .inl rfl, rfl, fun j h => by omega⟩
      case round =>
        obtain ⟨hbz, n, hn1, hn2, rfl, hrise⟩ := hrel
        have s3 : wr.cell? ⟨w.heap.size + 1, 3, none⟩ = some (.slice bA bids.length bc) := (hbz.cell (lt_of_cell HS.out.1)).trans HS.out.1
        have HW6 := hid (HW5.out.trans (hbz.mono HW5.out.size))
        obtain ⟨p, rfl⟩ : ∃ p, n = p + 1 := ⟨n - 1, by omega⟩
        by_cases hlt2 : p + 1 < bids.length
        · obtain ⟨b1, o1, hbA, hb1w, hc1⟩ := HB.out.at (by rw [flat_length bidC_len]; omega)
          obtain rfl : bA = _ := hbA
          obtain ⟨x, hx⟩ : ∃ b, bids[p]? = some b := ⟨bids[p], List.getElem?_eq_getElem (by omega)⟩
          obtain ⟨y, hy⟩ : ∃ b, bids[p + 1]? = some b := ⟨bids[p + 1], List.getElem?_eq_getElem (by omega)⟩
          have d0 : wr.cell? ⟨b1, o1 + p * 2, none⟩ = some (.int .i64 x.1) := (hbz.cell (p := ⟨b1, o1 + p * 2, none⟩) hb1w).trans (bid_cell hc1 hx (j := 0) (by omega))
          have d1 : wr.cell? ⟨b1, o1 + (p + 1) * 2, none⟩ = some (.int .i64 y.1) := (hbz.cell (p := ⟨b1, o1 + (p + 1) * 2, none⟩) hb1w).trans (bid_cell hc1 hy (j := 0) (by omega))
          have gx : (bids.map (·.1)).getD p 0 = x.1 := by simp [List.getD, hx]
          have gy : (bids.map (·.1)).getD (p + 1) 0 = y.1 := by simp [List.getD, hy]
          have g3 := (hbz.cell (lt_of_cell HS.out.2)).trans HS.out.2
          obtain ⟨x0, x1⟩ := x
          obtain ⟨y0, y1⟩ := y
          dsimp only at d0 d1 gx gy
          have hwr : IntKind.i64.wrap (p : Int) = p := by rw [IntKind.wrap_i64] <;> omega
          have hp1 : (p : Int) + 1 < bids.length := by omega
          have hp2 : ((p + 1 : Nat) : Int) < bids.length := by omega
          have hp0 : (p : Int) < bids.length := by omega
          clear hx hy hc1
          by_cases hxy : x0 < y0
          · have HR : Hid (∀ j, j + 1 < p + 1 + 1 → (bids.map (·.1)).getD j 0 < (bids.map (·.1)).getD (j + 1) 0) := by
              intro j hj
              by_cases h : j = p
              · rw [h, gx, gy]; exact hxy
              · exact hrise j (by omega)
            clear gx gy hrise
            go_wp2_with fail
            go_quiet (fail)
            go_wp2_with fail
            go_roundw
            case rel => exact ⟨below_drewN hbz _, p + 1 + 1, by omega, by omega, by go_num, HR.out⟩
            case measure => simp [intOf]; omega
          · have hyx : y0 ≤ x0 := by omega
            have HR : Hid (¬ rises (bids.map (·.1)) = true) := by
              rw [Hid, rises_iff]
              intro h
              have := h p (by rw [List.length_map]; omega)
              rw [gx, gy] at this
              exact hxy this
            clear gx gy hrise hxy
            go_wp2_with fail
            go_quiet (fail)
            go_wp2_with fail
            go_ret
            exact ⟨by rw [HE.out, if_neg HO1.out, if_neg HL.out, if_neg HO.out, if_neg HR.out]; rfl, below_drewN HW6.out _⟩
        · have hlt3 : (bids.length : Int) ≤ p + 1 := by omega
          have HR : Hid (rises (bids.map (·.1)) = true) := by
            rw [Hid, rises_iff]
            intro j hj
            rw [List.length_map] at hj
            exact hrise j (by omega)
          clear hrise
          go_wp2_with fail
          go_ret
          exact ⟨by rw [HE.out, if_neg HO1.out, if_neg HL.out, if_neg HO.out, if_pos HR.out]; rfl, HW6.out⟩
end Go.Proofs.YtogcbiooddodlaaDoor
