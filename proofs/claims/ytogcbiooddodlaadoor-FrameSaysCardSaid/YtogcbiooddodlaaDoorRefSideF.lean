/- Frames: the reference's side: what is amiss, bytes, the reader (several texts in one). -/
import Derived.Test.YtogcbiooddodlaaDoorFrameBackWalk
import Derived.Test.YtogcbiooddodlaaDoorRefPut
import Derived.Test.YtogcbiooddodlaaDoorSee3
import Derived.Test.YtogcbiooddodlaaDoorWireMore
import Derived.Test.YtogcbiooddodlaaDoorFrameRing
namespace Go.Proofs.YtogcbiooddodlaaDoor
open Go.RowKit
set_option linter.unusedSimpArgs false


theorem refCar_any (n : Int) (w : World) : Calls Tryd.prog 60 #[.int .i64 n] w fun e w' => e = .returned (.bool (isCar n)) ∧ w = w' := by
  by_cases h1 : 0 ≤ n
  · have e : isCar n = decide (n < 16) := by simp [isCar, h1]
    rw [e]
    clear e
    go_enter Tryd.func60, Tryd.ntmps60
    go_wp2_with fail
    go_ret
    exact ⟨rfl, rfl⟩
  · have e : isCar n = false := by simp [isCar, h1]
    rw [e]
    clear e
    go_enter Tryd.func60, Tryd.ntmps60
    go_wp2_with fail
    go_ret
    exact ⟨rfl, rfl⟩
def lessC (f d f' d' : Int) : Bool := decide (f < f') || (f == f' && decide (d < d'))
theorem cmpC_less (f d f' d' : Int) : decide (0 ≤ cmpC f d f' d') = !lessC f d f' d' := by
  unfold cmpC orI cmpI lessC
  by_cases h1 : f < f'
  · simp [h1]
  · by_cases h2 : f = f'
    · subst h2
      by_cases h3 : d < d'
      · simp [h3]
      · by_cases h4 : d' < d
        · simp [h3, h4]
        · simp [h3, h4]
    · have h3 : f' < f := by omega
      simp [h1, h2, h3]
set_option maxHeartbeats 800000 in
theorem lessCall_any (a b c d : Int) (w : World) : Calls Tryd.prog 84 #[.agg #[.int .i64 a, .int .i64 b], .agg #[.int .i64 c, .int .i64 d]] w (SaysB w (lessC a b c d)) := by
  unfold lessC
  go_enter Tryd.func84, Tryd.ntmps84
  go_wp2
  all_goals (go_ret; exact ⟨ret_bool (by simp_all), ((Below.refl _ _).alloc (Nat.le_refl _) _).alloc (by simp) _⟩)
/-- What is amiss with bids: the error's number. -/
def bidsE (ms : List Int) (bs : List (Int × Int)) : Int := if ms.length < bs.length then 104 else if bs.any (badBid ms) then 103 else if rises (bs.map (·.1)) then 0 else 111
def GivesIntB (w : World) (n : Int) (e : Ending) (w' : World) : Prop := e = .returned (.int .i64 n) ∧ Below w.heap.size w w'
set_option maxRecDepth 100000 in
set_option maxHeartbeats 1600000 in
theorem validBids_any (A B : Option Addr) (c d : Nat) (ms : List Int) (bs : List (Int × Int)) (w : World) (hm : Sl w A (ms.map (Value.int .i64))) (hb : Sl w B (bs.flatMap bidC)) (hml : ms.length ≤ 100000) (hbl : bs.length ≤ 9223372036854775807) :
    Calls Tryd.prog 85 #[.slice A ms.length c, .slice B bs.length d] w (GivesIntB w (bidsE ms bs)) := by
  generalize hE : bidsE ms bs = E
  have HE := hid hE
  clear hE
  go_enter Tryd.func85, Tryd.ntmps85
  by_cases hlen : ms.length < bs.length
  · have hlen' : (ms.length : Int) < bs.length := by omega
    have HO : Hid (E = 104) := by rw [Hid, ← HE.out]; exact if_pos hlen
    clear hlen
    go_wp2_with fail
    go_ret
    exact ⟨by rw [HO.out]; rfl, Below.refl _ _⟩
  have hlen' : ¬ (ms.length : Int) < bs.length := by omega
  have HE2 : Hid (E = if bs.any (badBid ms) then 103 else if rises (bs.map (·.1)) then 0 else 111) := by rw [Hid, ← HE.out]; exact if_neg hlen
  have hbl2 : bs.length ≤ 100000 := by omega
  clear HE hlen
  have HM := hid (And.intro hm hb)
  clear hm hb
  go_wp2_with fail
  go_loopw [5] (fun i wr => BidRel w wr ms bs i) (fun i _ => bs.length - (intOf i).toNat)
  case atStart => exact ⟨Below.refl _ _, 0, Nat.zero_le _, rfl, by simp⟩
  case round =>
    obtain ⟨hbr, m, hm, rfl, hgood⟩ := hrel
    by_cases hlt : m < bs.length
    · obtain ⟨b1, o1, hbA, hb1w, hc1⟩ := HM.out.2.at (by rw [flat_length bidC_len]; omega)
      obtain rfl : B = _ := hbA
      obtain ⟨b, hb⟩ : ∃ b, bs[m]? = some b := ⟨bs[m], List.getElem?_eq_getElem hlt⟩
      have d0 : wr.cell? ⟨b1, o1 + m * 2, none⟩ = some (.int .i64 b.1) := (hbr.cell (p := ⟨b1, o1 + m * 2, none⟩) hb1w).trans (bid_cell hc1 hb (j := 0) (by omega))
      have d1 : wr.cell? ⟨b1, o1 + m * 2 + 1, none⟩ = some (.int .i64 b.2) := (hbr.cell (p := ⟨b1, o1 + m * 2 + 1, none⟩) hb1w).trans (bid_cell hc1 hb (j := 1) (by omega))
      have hnext : badBid ms b = false → ∀ x ∈ bs.take (m + 1), badBid ms x = false := fun h => bids_next hb hgood h
      have hbad : badBid ms b = true → bs.any (badBid ms) = true := fun h => List.any_eq_true.2 ⟨b, List.mem_of_getElem? hb, h⟩
      have hlt' : (m : Int) < bs.length := by omega
      have HB6 := hid hbr
      have hcn := among_any A c ms b.1 _ (It2 HM.out.1 hbr) (by omega)
      obtain ⟨bc0, bt⟩ := b
      dsimp only at d0 d1 hcn
      have HN := hid (And.intro hnext hbad)
      clear hnext hbad hgood hc1 hb hbr
      by_cases h1 : bc0 ∈ ms
      · rw [decide_eq_true h1] at hcn
        have HI := hid h1
        clear h1
        by_cases h2 : bt < 0
        · have HO : Hid (bs.any (badBid ms) = true) := HN.out.2 (by simp [badBid, h2])
          go_wp2_with fail
          refine hcn.mono ?_
          rintro e w' ⟨rfl, rfl⟩
          go_wp2_with fail
          go_ret
          exact ⟨by rw [HE2.out, if_pos HO.out]; rfl, HB6.out⟩
        have h2' : 0 ≤ bt := by omega
        by_cases h3 : 1048576 < bt
        · have HO : Hid (bs.any (badBid ms) = true) := HN.out.2 (by simp [badBid, h3])
          go_wp2_with fail
          refine hcn.mono ?_
          rintro e w' ⟨rfl, rfl⟩
          go_wp2_with fail
          go_ret
          exact ⟨by rw [HE2.out, if_pos HO.out]; rfl, HB6.out⟩
        have h3' : bt ≤ 1048576 := by omega
        have HK := hid (HN.out.1 (by simp [badBid, HI.out]; omega))
        clear HN
        go_wp2_with fail
        refine hcn.mono ?_
        rintro e w' ⟨rfl, rfl⟩
        go_wp2_with fail
        go_roundw
        case rel => exact ⟨HB6.out, m + 1, by omega, by go_num, HK.out⟩
        case measure => simp [intOf]; omega
      · rw [decide_eq_false h1] at hcn
        have HO : Hid (bs.any (badBid ms) = true) := HN.out.2 (by simp [badBid, h1])
        clear h1 HN
        go_wp2_with fail
        refine hcn.mono ?_
        rintro e w' ⟨rfl, rfl⟩
        go_wp2_with fail
        go_ret
        exact ⟨by rw [HE2.out, if_pos HO.out]; rfl, HB6.out⟩
    · have hm' : m = bs.length := by omega
      have HO : Hid (¬ bs.any (badBid ms) = true) := by
        rw [hm', List.take_length] at hgood
        rw [Hid, List.any_eq_true]
        rintro ⟨x, hx, h⟩
        rw [hgood x hx] at h
        cases h
      have hlt' : ¬ (m : Int) < bs.length := by omega
      have HE3 := hid (HE2.out.trans (if_neg HO.out))
      clear hgood hm'
      go_wp2_with fail
      obtain ⟨w5, e5⟩ : ∃ w5, w5 = wr := ⟨_, rfl⟩
      subst e5
      go_loopw [6] (fun i wr => RiseRel w5 wr bs i) (fun i _ => bs.length - (intOf i).toNat)
      case atStart => exact ⟨Below.refl _ _, 1, by omega, .inl rfl, rfl, fun j h => by omega⟩
      case round =>
        obtain ⟨hbz, n, hn1, hn2, rfl, hrise⟩ := hrel
        have HW6 := hid (hbr.trans (hbz.mono hbr.size))
        by_cases hlt2 : n < bs.length
        · obtain ⟨p, rfl⟩ : ∃ p, n = p + 1 := ⟨n - 1, by omega⟩
          obtain ⟨b1, o1, hbA, hb1w, hc1⟩ := (It2 HM.out.2 hbr).at (by rw [flat_length bidC_len]; omega)
          obtain rfl : B = _ := hbA
          obtain ⟨x, hx⟩ : ∃ b, bs[p]? = some b := ⟨bs[p], List.getElem?_eq_getElem (by omega)⟩
          obtain ⟨y, hy⟩ : ∃ b, bs[p + 1]? = some b := ⟨bs[p + 1], List.getElem?_eq_getElem (by omega)⟩
          have d0 : wr.cell? ⟨b1, o1 + p * 2, none⟩ = some (.int .i64 x.1) := (hbz.cell (p := ⟨b1, o1 + p * 2, none⟩) hb1w).trans (bid_cell hc1 hx (j := 0) (by omega))
          have d1 : wr.cell? ⟨b1, o1 + (p + 1) * 2, none⟩ = some (.int .i64 y.1) := (hbz.cell (p := ⟨b1, o1 + (p + 1) * 2, none⟩) hb1w).trans (bid_cell hc1 hy (j := 0) (by omega))
          have gx : (bs.map (·.1)).getD p 0 = x.1 := by simp [List.getD, hx]
          have gy : (bs.map (·.1)).getD (p + 1) 0 = y.1 := by simp [List.getD, hy]
          obtain ⟨x0, x1⟩ := x
          obtain ⟨y0, y1⟩ := y
          dsimp only at d0 d1 gx gy
          have hwr : IntKind.i64.wrap (p : Int) = p := by rw [IntKind.wrap_i64] <;> omega
          have hp1 : (p : Int) + 1 < bs.length := by omega
          have hp2 : ((p + 1 : Nat) : Int) < bs.length := by omega
          have hp0 : (p : Int) < bs.length := by omega
          clear hx hy hc1
          by_cases hxy : x0 < y0
          · have HR : Hid (∀ j, j + 1 < p + 1 + 1 → (bs.map (·.1)).getD j 0 < (bs.map (·.1)).getD (j + 1) 0) := by
              intro j hj
              by_cases h : j = p
              · rw [h, gx, gy]; exact hxy
              · exact hrise j (by omega)
            clear gx gy hrise
            go_wp2_with fail
            go_quiet (fail)
            go_wp2_with fail
            go_roundw
            case rel => exact ⟨below_drewN hbz _, p + 1 + 1, by omega, by omega, by go_num, HR.out⟩
            case measure => simp [intOf]; omega
          · have hyx : y0 ≤ x0 := by omega
            have HR : Hid (¬ rises (bs.map (·.1)) = true) := by
              rw [Hid, rises_iff]
              intro h
              have := h p (by rw [List.length_map]; omega)
              rw [gx, gy] at this
              exact hxy this
            clear gx gy hrise hxy
            go_wp2_with fail
            go_quiet (fail)
            go_wp2_with fail
            go_ret
            exact ⟨by rw [HE3.out, if_neg HR.out]; rfl, below_drewN HW6.out _⟩
        · have hlt3 : (bs.length : Int) ≤ n := by omega
          have HR : Hid (rises (bs.map (·.1)) = true) := by
            rw [Hid, rises_iff]
            intro j hj
            rw [List.length_map] at hj
            exact hrise j (by omega)
          clear hrise
          go_wp2_with fail
          go_ret
          exact ⟨by rw [HE3.out, if_pos HR.out]; rfl, HW6.out⟩

theorem entAt_bids {ms : List Int} {es : List EntL} {k : Nat} {e : EntL} (h : es[k]? = some e) : entAt ms es k = if badCall ms e then 103 else if outOfRow (if k = 0 then none else es[k - 1]?) e then 111 else bidsE ms e.bids := by
  rw [entAt, h]
  rfl
def CarsRel (W wr : World) (ms : List Int) (i : Value) : Prop := Below W.heap.size W wr ∧ ∃ k : Nat, k ≤ ms.length ∧ i = .int .i64 k ∧ ∀ n ∈ ms.take k, isCar n = true
set_option maxRecDepth 100000 in
set_option maxHeartbeats 8000000 in
theorem refValidRing_any (count founder hop : Int) (MA : Option Addr) (mc : Nat) (ms : List Int) (EA : Option Addr) (ec : Nat) (es : List EntL) (w : World) (hR : RingIs w MA ms EA es) :
    Calls Tryd.prog 61 #[.agg (ringV count founder hop MA ms.length mc EA es.length ec)] w (GivesIntB w (ringE count founder hop ms es)) := by
  have hb1 : Below w.heap.size w (w.alloc (.cells (ringV count founder hop MA ms.length mc EA es.length ec) 53)) := (Below.refl _ _).alloc (Nat.le_refl _) _
  have x1 : Blk (w.alloc (.cells (ringV count founder hop MA ms.length mc EA es.length ec) 53)) w.heap.size (ringL count founder hop MA ms.length mc EA es.length ec) 53 := Blk.new w _ _
  have hlm : ms.length ≤ 100000 := hR.lens.1
  have hle : es.length ≤ 100000 := hR.lens.2.1
  generalize hE : ringE count founder hop ms es = E
  have HE := hid hE
  clear hE
  go_enter Tryd.func61, Tryd.ntmps61
  go_upto_region 1 with (fail)
  generalize w.alloc (.cells (ringV count founder hop MA ms.length mc EA es.length ec) 53) = w1 at *
  have r0 : w1.cell? ⟨w.heap.size, 0, none⟩ = some (.int .i64 count) := x1.cell 0
  have r1 : w1.cell? ⟨w.heap.size, 1, none⟩ = some (.int .i64 founder) := x1.cell 1
  have r2 : w1.cell? ⟨w.heap.size, 2, none⟩ = some (.int .i64 hop) := x1.cell 2
  have hv := refValid_any count founder w1
  have HX := hid (And.intro x1 (And.intro hb1 hR))
  clear x1 hb1 hR
  by_cases h1 : validE count founder = false ∨ hop < 0 ∨ 1099511627776 < hop
  case pos =>
    have HO : Hid (E = 103) := by rw [Hid, ← HE.out]; exact if_pos h1
    cases hve : validE count founder
    case false =>
      rw [hve] at hv
      clear h1 hve
      go_wp2_with fail
      refine hv.mono ?_
      rintro e w2 ⟨rfl, hb2⟩
      have B2 := HX.out.2.1.trans (hb2.mono HX.out.2.1.size)
      go_wp2_with fail
      go_ret
      exact ⟨by rw [HO.out]; rfl, B2⟩
    case true =>
      rw [hve] at hv h1
      by_cases h2 : hop < 0
      · clear h1 hve
        go_wp2_with fail
        refine hv.mono ?_
        rintro e w2 ⟨rfl, hb2⟩
        have B2 := HX.out.2.1.trans (hb2.mono HX.out.2.1.size)
        have r2 := (hb2.cell (lt_of_cell r2)).trans r2
        go_wp2_with fail
        go_ret
        exact ⟨by rw [HO.out]; rfl, B2⟩
      · have h2' : 0 ≤ hop := by omega
        have h3' : 1099511627776 < hop := by
          rcases h1 with h | h | h
          · cases h
          · omega
          · exact h
        clear h1 hve h2
        go_wp2_with fail
        refine hv.mono ?_
        rintro e w2 ⟨rfl, hb2⟩
        have B2 := HX.out.2.1.trans (hb2.mono HX.out.2.1.size)
        have r2 := (hb2.cell (lt_of_cell r2)).trans r2
        go_wp2_with fail
        go_ret
        exact ⟨by rw [HO.out]; rfl, B2⟩
  have HE2 : Hid (E = if 16 < ms.length ∨ ms.length = 0 ∨ 128 < es.length then 104 else if noCar ms then 103 else if rises ms = false then 111 else entsE ms es 0 es.length) := by rw [Hid, ← HE.out]; exact if_neg h1
  have hve : validE count founder = true := by
    cases h : validE count founder
    · exact absurd (.inl h) h1
    · rfl
  have h2' : 0 ≤ hop := by omega
  have h3' : hop ≤ 1099511627776 := by omega
  rw [hve] at hv
  clear h1 hve HE
  go_wp2_with fail
  refine hv.mono ?_
  rintro e w2 ⟨rfl, hb2⟩
  have x2 := (Eff.of_below (S := fun _ => False) hb2).blk HX.out.1 (fun h => h)
  have B2 := HX.out.2.1.trans (hb2.mono HX.out.2.1.size)
  have r2 := (hb2.cell (lt_of_cell r2)).trans r2
  have r3 : w2.cell? ⟨w.heap.size, 3, none⟩ = some (.slice MA ms.length mc) := x2.cell 3
  have r4 : w2.cell? ⟨w.heap.size, 4, none⟩ = some (.slice EA es.length ec) := x2.cell 4
  clear hv hb2 r0 r1
  by_cases hm : 16 < ms.length ∨ ms.length = 0 ∨ 128 < es.length
  case pos =>
    have HO := hid (HE2.out.trans (if_pos hm))
    by_cases m2 : ms.length = 0
    · have m2' : ((ms.length : Int) == 0) = true := by rw [beq_iff_eq]; omega
      clear hm
      go_wp2_with fail
      go_ret
      exact ⟨by rw [HO.out]; rfl, B2⟩
    have m2' : ((ms.length : Int) == 0) = false := by rw [beq_eq_false_iff_ne]; omega
    by_cases m1 : 16 < ms.length
    · have m1' : (16 : Int) < ms.length := by omega
      clear hm
      go_wp2_with fail
      go_ret
      exact ⟨by rw [HO.out]; rfl, B2⟩
    have m1' : (ms.length : Int) ≤ 16 := by omega
    have m3' : (128 : Int) < es.length := by omega
    clear hm m1 m2
    go_wp2_with fail
    go_ret
    exact ⟨by rw [HO.out]; rfl, B2⟩
  have m1' : (ms.length : Int) ≤ 16 := by omega
  have m2' : ((ms.length : Int) == 0) = false := by rw [beq_eq_false_iff_ne]; omega
  have m3' : (es.length : Int) ≤ 128 := by omega
  have HE3 := hid (HE2.out.trans (if_neg hm))
  have HR2 := hid (And.intro x2 (And.intro B2 (HX.out.2.2.on B2)))
  clear HE2 hm x2 B2 HX
  go_wp2_with fail
  clear r2 r3 r4 m1' m2' m3' h2' h3'
  go_loopw [4] (fun i wr => CarsRel w2 wr ms i) (fun i _ => ms.length - (intOf i).toNat)
  case atStart => exact ⟨Below.refl _ _, 0, Nat.zero_le _, rfl, by simp⟩
  case round =>
  obtain ⟨hbc, k, hk, rfl, hcars⟩ := hrel
  have x3 := (Eff.of_below (S := fun _ => False) hbc).blk HR2.out.1 (fun h => h)
  have r3 : wr.cell? ⟨w.heap.size, 3, none⟩ = some (.slice MA ms.length mc) := x3.cell 3
  have HB3 := hid (HR2.out.2.1.trans (hbc.mono HR2.out.2.1.size))
  by_cases hlt : k < ms.length
  case pos =>
    obtain ⟨b, o, hMA, hbw, hc⟩ := HR2.out.2.2.mem.at (by simp; omega)
    obtain rfl : MA = _ := hMA
    have d0 : wr.cell? ⟨b, o + k, none⟩ = some (.int .i64 (ms.getD k 0)) := (hbc.cell (p := ⟨b, o + k, none⟩) hbw).trans ((hc k (by simpa using hlt)).trans (getD_int hlt))
    have hmem := mem_getD hlt
    have hnext := car_next hlt hcars
    obtain ⟨x, ex⟩ : ∃ x, ms.getD k 0 = x := ⟨_, rfl⟩
    rw [ex] at d0 hmem hnext
    have hlt' : (k : Int) < ms.length := by omega
    have hcl := refCar_any x wr
    clear hc ex
    cases he : isCar x
    · have HO : Hid (noCar ms = true) := (noCar_iff ms).2 (fun h => by rw [h x hmem] at he; cases he)
      rw [he] at hcl
      clear hmem hnext hcars he
      go_wp2_with fail
      refine hcl.mono ?_
      rintro e w' ⟨rfl, rfl⟩
      go_wp2_with fail
      go_ret
      exact ⟨by rw [HE3.out, if_pos HO.out]; rfl, HB3.out⟩
    · have HN := hid (hnext he)
      rw [he] at hcl
      clear hmem hnext hcars he
      have HC := hid hbc
      go_wp2_with fail
      refine hcl.mono ?_
      rintro e w' ⟨rfl, rfl⟩
      go_wp2_with fail
      go_roundw
      case rel => exact ⟨HC.out, k + 1, by omega, by go_num, HN.out⟩
      case measure => simp [intOf]; omega
  case neg =>
  have hk' : k = ms.length := by omega
  have HO : Hid (¬ noCar ms = true) := fun h => (noCar_iff ms).1 h (by rw [hk', List.take_length] at hcars; exact hcars)
  have HE4 := hid (HE3.out.trans (if_neg HO.out))
  have hki : ¬ (k : Int) < ms.length := by omega
  have HR3 := hid (And.intro x3 (HR2.out.2.2.on hbc))
  clear hcars hk' x3 HE3 hbc HR2
  go_wp2_with fail
  obtain ⟨w4, e4⟩ : ∃ w4, w4 = wr := ⟨_, rfl⟩
  subst e4
  clear r3 hki
  go_loopw [5] (fun i wr => RiseI w4 wr ms i) (fun i _ => ms.length - (intOf i).toNat)
  case atStart => exact ⟨Below.refl _ _, 1, by omega, .inl rfl, rfl, fun j h => by omega⟩
  case round =>
  obtain ⟨hbz, n, hn1, hn2, rfl, hrise⟩ := hrel
  have x5 := (Eff.of_below (S := fun _ => False) hbz).blk HR3.out.1 (fun h => h)
  have r3 : wr.cell? ⟨w.heap.size, 3, none⟩ = some (.slice MA ms.length mc) := x5.cell 3
  have HB5 := hid (HB3.out.trans (hbz.mono HB3.out.size))
  by_cases hlt2 : n < ms.length
  case pos =>
    obtain ⟨p, rfl⟩ : ∃ p, n = p + 1 := ⟨n - 1, by omega⟩
    obtain ⟨b1, o1, hMA, hb1w, hc1⟩ := HR3.out.2.mem.at (by rw [List.length_map]; omega)
    obtain rfl : MA = _ := hMA
    have d0 : wr.cell? ⟨b1, o1 + p, none⟩ = some (.int .i64 (ms.getD p 0)) := (hbz.cell (p := ⟨b1, o1 + p, none⟩) hb1w).trans ((hc1 p (by rw [List.length_map]; omega)).trans (getD_int (by omega)))
    have d1 : wr.cell? ⟨b1, o1 + (p + 1), none⟩ = some (.int .i64 (ms.getD (p + 1) 0)) := (hbz.cell (p := ⟨b1, o1 + (p + 1), none⟩) hb1w).trans ((hc1 (p + 1) (by rw [List.length_map]; omega)).trans (getD_int (by omega)))
    obtain ⟨x, gx⟩ : ∃ x, ms.getD p 0 = x := ⟨_, rfl⟩
    obtain ⟨y, gy⟩ : ∃ y, ms.getD (p + 1) 0 = y := ⟨_, rfl⟩
    rw [gx] at d0
    rw [gy] at d1
    have hwr : IntKind.i64.wrap (p : Int) = p := by rw [IntKind.wrap_i64] <;> omega
    have hp1 : (p : Int) + 1 < ms.length := by omega
    have hp2 : ((p + 1 : Nat) : Int) < ms.length := by omega
    have hp0 : (p : Int) < ms.length := by omega
    clear hc1 x5
    by_cases hxy : x < y
    · have HR : Hid (∀ j, j + 1 < p + 1 + 1 → ms.getD j 0 < ms.getD (j + 1) 0) := by
        intro j hj
        by_cases h : j = p
        · rw [h, gx, gy]; exact hxy
        · exact hrise j (by omega)
      clear gx gy hrise
      go_wp2_with fail
      go_quiet (fail)
      go_wp2_with fail
      go_roundw
      case rel => exact ⟨below_drewN hbz _, p + 1 + 1, by omega, by omega, by go_num, HR.out⟩
      case measure => simp [intOf]; omega
    · have hyx : y ≤ x := by omega
      have HR : Hid (rises ms = false) := by
        rw [Hid, ← Bool.not_eq_true, rises_iff]
        intro h
        have := h p hlt2
        rw [gx, gy] at this
        exact hxy this
      clear gx gy hrise hxy
      go_wp2_with fail
      go_quiet (fail)
      go_wp2_with fail
      go_ret
      exact ⟨by rw [HE4.out, if_pos HR.out]; rfl, below_drewN HB5.out _⟩
  case neg =>
  have hlt3 : (ms.length : Int) ≤ n := by omega
  have HR : Hid (¬ rises ms = false) := by
    rw [Hid, Bool.not_eq_false, rises_iff]
    intro j hj
    exact hrise j (by omega)
  have HE5 := hid (HE4.out.trans (if_neg HR.out))
  have HR5 := hid (And.intro x5 (HR3.out.2.on hbz))
  clear hrise HE4 HR x5 hbz HR3 HB3
  go_wp2_with fail
  obtain ⟨w5, e5⟩ : ∃ w5, w5 = wr := ⟨_, rfl⟩
  subst e5
  clear r3 hlt3
  obtain ⟨rb, hrb⟩ : ∃ rb, rb = w.heap.size := ⟨_, rfl⟩
  rw [← hrb] at HR5 ⊢
  clear hrb
  go_loopw [6] (fun i wr => EntsRel w5 wr ms es i) (fun i _ => es.length - (intOf i).toNat)
  case atStart => exact ⟨Below.refl _ _, 0, by omega, rfl, fun j h => by omega⟩
  case round =>
  obtain ⟨hbe, k, hk, rfl, hzero⟩ := hrel
  have x6 := (Eff.of_below (S := fun _ => False) hbe).blk HR5.out.1 (fun h => h)
  have r4 : wr.cell? ⟨rb, 4, none⟩ = some (.slice EA es.length ec) := x6.cell 4
  have HB7 := hid (HB5.out.trans (hbe.mono HB5.out.size))
  by_cases hke : k < es.length
  case neg =>
    have hki : ¬ (k : Int) < es.length := by omega
    have HK := hid (HE5.out.trans (entsE_none es.length 0 (fun i _ h => hzero i (by omega))))
    clear hzero x6
    go_wp2_with fail
    go_ret
    exact ⟨by rw [HK.out]; rfl, HB7.out⟩
  case pos =>
  obtain ⟨b0, o0, hEA, hbw0, hcx⟩ := HR5.out.2.ent.at (by rw [flat_length EntL.len]; omega)
  obtain rfl : EA = _ := hEA
  obtain ⟨e, he⟩ : ∃ e, es[k]? = some e := ⟨es[k], List.getElem?_eq_getElem hke⟩
  obtain ⟨fl, di, ge, aw, bids, bA, bc⟩ := e
  have q0 : wr.cell? ⟨b0, o0 + k * 5, none⟩ = some (.int .i64 fl) := (hbe.cell (p := ⟨b0, o0 + k * 5, none⟩) hbw0).trans (ent_cell hcx he (j := 0) (by omega))
  have q1 : wr.cell? ⟨b0, o0 + k * 5 + 1, none⟩ = some (.int .i64 di) := (hbe.cell (p := ⟨b0, o0 + k * 5 + 1, none⟩) hbw0).trans (ent_cell hcx he (j := 1) (by omega))
  have q2 : wr.cell? ⟨b0, o0 + k * 5 + 2, none⟩ = some (.int .i64 ge) := (hbe.cell (p := ⟨b0, o0 + k * 5 + 2, none⟩) hbw0).trans (ent_cell hcx he (j := 2) (by omega))
  have q3 : wr.cell? ⟨b0, o0 + k * 5 + 3, none⟩ = some (.slice bA bids.length bc) := (hbe.cell (p := ⟨b0, o0 + k * 5 + 3, none⟩) hbw0).trans (ent_cell hcx he (j := 3) (by omega))
  have q4 : wr.cell? ⟨b0, o0 + k * 5 + 4, none⟩ = some (.int .i64 aw) := (hbe.cell (p := ⟨b0, o0 + k * 5 + 4, none⟩) hbw0).trans (ent_cell hcx he (j := 4) (by omega))
  have hki : (k : Int) < es.length := by omega
  have HC := hid hcx
  have HZ := hid hzero
  clear hcx hzero
  go_upto_region 21 with (fail)
  have hb3 : Below wr.heap.size wr ((wr.alloc (.cells #[.int .i64 fl, .int .i64 di, .int .i64 ge, .slice bA bids.length bc, .int .i64 aw] 62)).alloc (.cells #[.int .i64 fl, .int .i64 di] 55)) := ((Below.refl _ _).alloc (Nat.le_refl _) _).alloc (by simp) _
  have hx2 : Blk ((wr.alloc (.cells #[.int .i64 fl, .int .i64 di, .int .i64 ge, .slice bA bids.length bc, .int .i64 aw] 62)).alloc (.cells #[.int .i64 fl, .int .i64 di] 55)) wr.heap.size [.int .i64 fl, .int .i64 di, .int .i64 ge, .slice bA bids.length bc, .int .i64 aw] 62 := (Blk.new wr _ _).alloc _
  have hx3 : Blk ((wr.alloc (.cells #[.int .i64 fl, .int .i64 di, .int .i64 ge, .slice bA bids.length bc, .int .i64 aw] 62)).alloc (.cells #[.int .i64 fl, .int .i64 di] 55)) (wr.heap.size + 1) [.int .i64 fl, .int .i64 di] 55 := by
    rw [show wr.heap.size + 1 = (wr.alloc (.cells #[.int .i64 fl, .int .i64 di, .int .i64 ge, .slice bA bids.length bc, .int .i64 aw] 62)).heap.size from by simp]
    exact Blk.new _ _ _
  have x7 := (Eff.of_below (S := fun _ => False) hb3).blk x6 (fun h => h)
  have B3 := hbe.trans (hb3.mono hbe.size)
  generalize (wr.alloc (.cells #[.int .i64 fl, .int .i64 di, .int .i64 ge, .slice bA bids.length bc, .int .i64 aw] 62)).alloc (.cells #[.int .i64 fl, .int .i64 di] 55) = w3 at *
  obtain ⟨cb, hcb⟩ : ∃ cb, cb = wr.heap.size + 1 := ⟨_, rfl⟩
  rw [← hcb] at hx3 ⊢
  obtain ⟨eb, heb⟩ : ∃ eb, eb = wr.heap.size := ⟨_, rfl⟩
  rw [← heb] at hx2 ⊢
  clear hcb heb q0 q1 q2 q3 q4 r4 hb3
  have hR3 := HR5.out.2.on B3
  have HWE := hid B3
  have k0 : w3.cell? ⟨cb, 0, none⟩ = some (.int .i64 fl) := hx3.cell 0
  have k1 : w3.cell? ⟨cb, 1, none⟩ = some (.int .i64 di) := hx3.cell 1
  have k2 : w3.cell? ⟨eb, 2, none⟩ = some (.int .i64 ge) := hx2.cell 2
  have k4 : w3.cell? ⟨eb, 4, none⟩ = some (.int .i64 aw) := hx2.cell 4
  have r3 : w3.cell? ⟨rb, 3, none⟩ = some (.slice MA ms.length mc) := x7.cell 3
  have hcn := among_any MA mc ms aw w3 hR3.mem (by have := hR3.lens.1; omega)
  have HX := hid (And.intro x7 (And.intro hx2 (And.intro hx3 (And.intro hR3 he))))
  clear x7 hx2 hx3 x6 B3 hbe he
  go_cut [125] (fun v wx => v = .bool (decide (badCall ms ⟨fl, di, ge, aw, bids, bA, bc⟩)) ∧ wx = w3)
  case first =>
    --<
    by_cases h1 : fl < 0
    · have HO := hid (decide_eq_true (show badCall ms ⟨fl, di, ge, aw, bids, bA, bc⟩ from by unfold badCall; simp only; exact .inl h1))
      go_wp2_with fail
      go_meet
      exact ⟨by rw [HO.out], rfl⟩
    have h1' : 0 ≤ fl := by omega
    by_cases h2 : 64 ≤ fl
    · have HO := hid (decide_eq_true (show badCall ms ⟨fl, di, ge, aw, bids, bA, bc⟩ from by unfold badCall; simp only; omega))
      go_wp2_with fail
      go_meet
      exact ⟨by rw [HO.out], rfl⟩
    have h2' : fl < 64 := by omega
    by_cases h3 : di = 1
    · subst h3
      by_cases h4 : ge < 1
      · have HO := hid (decide_eq_true (show badCall ms ⟨fl, 1, ge, aw, bids, bA, bc⟩ from by unfold badCall; simp only; omega))
        go_wp2_with fail
        go_meet
        exact ⟨by rw [HO.out], rfl⟩
      have h4' : 1 ≤ ge := by omega
      by_cases h5 : 2147483647 < ge
      · have HO := hid (decide_eq_true (show badCall ms ⟨fl, 1, ge, aw, bids, bA, bc⟩ from by unfold badCall; simp only; omega))
        go_wp2_with fail
        go_meet
        exact ⟨by rw [HO.out], rfl⟩
      have h5' : ge ≤ 2147483647 := by omega
      by_cases h6 : aw = -1
      · subst h6
        have HO := hid (decide_eq_false (show ¬ badCall ms ⟨fl, 1, ge, (-1), bids, bA, bc⟩ from by unfold badCall; simp only; omega))
        go_wp2_with fail
        go_meet
        exact ⟨by rw [HO.out], rfl⟩
      have h6b : (aw != -1) = true := by simpa using h6
      by_cases h7 : aw ∈ ms
      · rw [decide_eq_true h7] at hcn
        have HO := hid (decide_eq_false (show ¬ badCall ms ⟨fl, 1, ge, aw, bids, bA, bc⟩ from by unfold badCall; simp only; intro q; rcases q with q | q | q | q | q | q; all_goals first | omega | exact q.2 h7 | exact absurd rfl q.1 | exact absurd rfl q.2))
        clear h6 h7
        go_wp2_with fail
        refine hcn.mono ?_
        rintro e w' ⟨rfl, rfl⟩
        go_wp2_with fail
        go_meet
        exact ⟨by rw [HO.out], rfl⟩
      · rw [decide_eq_false h7] at hcn
        have HO := hid (decide_eq_true (show badCall ms ⟨fl, 1, ge, aw, bids, bA, bc⟩ from by unfold badCall; simp only; exact .inr (.inr (.inr (.inr (.inr ⟨h6, h7⟩))))))
        clear h6 h7
        go_wp2_with fail
        refine hcn.mono ?_
        rintro e w' ⟨rfl, rfl⟩
        go_wp2_with fail
        go_meet
        exact ⟨by rw [HO.out], rfl⟩
    have h3b : (di != 1) = true := by simpa using h3
    by_cases h3m : di = -1
    · subst h3m
      by_cases h4 : ge < 1
      · have HO := hid (decide_eq_true (show badCall ms ⟨fl, (-1), ge, aw, bids, bA, bc⟩ from by unfold badCall; simp only; omega))
        go_wp2_with fail
        go_meet
        exact ⟨by rw [HO.out], rfl⟩
      have h4' : 1 ≤ ge := by omega
      by_cases h5 : 2147483647 < ge
      · have HO := hid (decide_eq_true (show badCall ms ⟨fl, (-1), ge, aw, bids, bA, bc⟩ from by unfold badCall; simp only; omega))
        go_wp2_with fail
        go_meet
        exact ⟨by rw [HO.out], rfl⟩
      have h5' : ge ≤ 2147483647 := by omega
      by_cases h6 : aw = -1
      · subst h6
        have HO := hid (decide_eq_false (show ¬ badCall ms ⟨fl, (-1), ge, (-1), bids, bA, bc⟩ from by unfold badCall; simp only; omega))
        go_wp2_with fail
        go_meet
        exact ⟨by rw [HO.out], rfl⟩
      have h6b : (aw != -1) = true := by simpa using h6
      by_cases h7 : aw ∈ ms
      · rw [decide_eq_true h7] at hcn
        have HO := hid (decide_eq_false (show ¬ badCall ms ⟨fl, (-1), ge, aw, bids, bA, bc⟩ from by unfold badCall; simp only; intro q; rcases q with q | q | q | q | q | q; all_goals first | omega | exact q.2 h7 | exact absurd rfl q.1 | exact absurd rfl q.2))
        clear h6 h7
        go_wp2_with fail
        refine hcn.mono ?_
        rintro e w' ⟨rfl, rfl⟩
        go_wp2_with fail
        go_meet
        exact ⟨by rw [HO.out], rfl⟩
      · rw [decide_eq_false h7] at hcn
        have HO := hid (decide_eq_true (show badCall ms ⟨fl, (-1), ge, aw, bids, bA, bc⟩ from by unfold badCall; simp only; exact .inr (.inr (.inr (.inr (.inr ⟨h6, h7⟩))))))
        clear h6 h7
        go_wp2_with fail
        refine hcn.mono ?_
        rintro e w' ⟨rfl, rfl⟩
        go_wp2_with fail
        go_meet
        exact ⟨by rw [HO.out], rfl⟩
    have h3c : (di != -1) = true := by simpa using h3m
    have HO := hid (decide_eq_true (show badCall ms ⟨fl, di, ge, aw, bids, bA, bc⟩ from by unfold badCall; simp only; exact .inr (.inr (.inl ⟨h3, h3m⟩))))
    clear h3 h3m
    go_wp2_with fail
    go_meet
    exact ⟨by rw [HO.out], rfl⟩
    -->
  case rest =>
  obtain ⟨rfl, hwx⟩ := hcut
  obtain rfl : w3 = _ := hwx.symm
  have HW : Hid (Below w.heap.size w w3) := HB5.out.trans (HWE.out.mono HB5.out.size)
  have HEq : Hid (entAt ms es k = if badCall ms ⟨fl, di, ge, aw, bids, bA, bc⟩ then 103 else if outOfRow (if k = 0 then none else es[k - 1]?) ⟨fl, di, ge, aw, bids, bA, bc⟩ then 111 else bidsE ms bids) := entAt_bids HX.out.2.2.2.2
  by_cases hB : badCall ms ⟨fl, di, ge, aw, bids, bA, bc⟩
  · have HO : Hid (entAt ms es k = 103) := HEq.out.trans (if_pos hB)
    have HK := hid (HE5.out.trans (entsE_at es.length k 0 (Nat.zero_le _) (by omega) (fun i _ h => HZ.out i h) (by rw [HO.out]; decide)))
    rw [decide_eq_true hB]
    clear hB
    go_wp2_with fail
    go_ret
    exact ⟨by rw [HK.out, HO.out]; rfl, HW.out⟩
  rw [decide_eq_false hB]
  have HEq2 := hid (HEq.out.trans (if_neg hB))
  clear hB hcn k0 k1 k2 k4 HEq
  have hEq3 : w3.cell? ⟨rb, 4, none⟩ = some (.slice (some ⟨b0, o0, none⟩) es.length ec) := HX.out.1.cell 4
  have q0 : w3.cell? ⟨cb, 0, none⟩ = some (.int .i64 fl) := HX.out.2.2.1.cell 0
  have q1 : w3.cell? ⟨cb, 1, none⟩ = some (.int .i64 di) := HX.out.2.2.1.cell 1
  have hbw := hbw0
  clear r3
  go_upto_region 23 with (fail)
  go_cut [140] (fun v wx => v = .bool (outOfRow (if k = 0 then none else es[k - 1]?) ⟨fl, di, ge, aw, bids, bA, bc⟩) ∧ Below w3.heap.size w3 wx)
  case first =>
    --<
    by_cases hk0 : k = 0
    · subst hk0
      have hd : decide ((0 : Int) < ((0 : Nat) : Int)) = false := by decide
      go_wp2_with fail
      refine wp_region_held_drew (S := fun _ => True) (by kernel_rfl) ?_ (fun hHeld => ?_)
      · (try dsimp only); (try trivial)
      refine held_take 0 ?_ rfl (by kernel_rfl) (by kernel_rfl) (by kernel_rfl) (fun _ _ _ h => h) (by rfl) ?_ hHeld ?_
      rotate_left
      · (intro w hSw; (try dsimp only at hSw); go_simp; try with_reducible rfl)
      try simp only [Act.put, List.setIfInBounds_toArray, List.set_cons_zero, List.set_cons_succ]
      refine held_take 1 ?_ rfl (by kernel_rfl) (by kernel_rfl) (by kernel_rfl) (fun _ _ _ h => h) (by rfl) ?_ hHeld ?_
      rotate_left
      · (intro w hSw; (try dsimp only at hSw); go_simp; try with_reducible rfl)
      try simp only [Act.put, List.setIfInBounds_toArray, List.set_cons_zero, List.set_cons_succ]
      refine held_take 2 ?_ rfl (by kernel_rfl) (by kernel_rfl) (by kernel_rfl) (fun _ _ _ h => h) (by rfl) ?_ hHeld ?_
      rotate_left
      · (intro w hSw; (try dsimp only at hSw); go_simp; try with_reducible rfl)
      try simp only [Act.put, List.setIfInBounds_toArray, List.set_cons_zero, List.set_cons_succ]
      refine held_skip 3 rfl (by kernel_rfl) (by kernel_rfl) (by kernel_rfl) (fun _ _ _ h => h) (by rfl) hHeld ?_
      try simp only [Act.put, List.setIfInBounds_toArray, List.set_cons_zero, List.set_cons_succ]
      refine held_skip 4 rfl (by kernel_rfl) (by kernel_rfl) (by kernel_rfl) (fun _ _ _ h => h) (by rfl) hHeld ?_
      try simp only [Act.put, List.setIfInBounds_toArray, List.set_cons_zero, List.set_cons_succ]
      refine held_skip 5 rfl (by kernel_rfl) (by kernel_rfl) (by kernel_rfl) (fun _ _ _ h => h) (by rfl) hHeld ?_
      try simp only [Act.put, List.setIfInBounds_toArray, List.set_cons_zero, List.set_cons_succ]
      refine held_skip 6 rfl (by kernel_rfl) (by kernel_rfl) (by kernel_rfl) (fun _ _ _ h => h) (by rfl) hHeld ?_
      try simp only [Act.put, List.setIfInBounds_toArray, List.set_cons_zero, List.set_cons_succ]
      refine held_skip 7 rfl (by kernel_rfl) (by kernel_rfl) (by kernel_rfl) (fun _ _ _ h => h) (by rfl) hHeld ?_
      try simp only [Act.put, List.setIfInBounds_toArray, List.set_cons_zero, List.set_cons_succ]
      refine held_skip 8 rfl (by kernel_rfl) (by kernel_rfl) (by kernel_rfl) (fun _ _ _ h => h) (by rfl) hHeld ?_
      try simp only [Act.put, List.setIfInBounds_toArray, List.set_cons_zero, List.set_cons_succ]
      refine held_skip 9 rfl (by kernel_rfl) (by kernel_rfl) (by kernel_rfl) (fun _ _ _ h => h) (by rfl) hHeld ?_
      try simp only [Act.put, List.setIfInBounds_toArray, List.set_cons_zero, List.set_cons_succ]
      refine held_skip 10 rfl (by kernel_rfl) (by kernel_rfl) (by kernel_rfl) (fun _ _ _ h => h) (by rfl) hHeld ?_
      try simp only [Act.put, List.setIfInBounds_toArray, List.set_cons_zero, List.set_cons_succ]
      refine held_skip 11 rfl (by kernel_rfl) (by kernel_rfl) (by kernel_rfl) (fun _ _ _ h => h) (by rfl) hHeld ?_
      try simp only [Act.put, List.setIfInBounds_toArray, List.set_cons_zero, List.set_cons_succ]
      refine held_skip 12 rfl (by kernel_rfl) (by kernel_rfl) (by kernel_rfl) (fun _ _ _ h => h) (by rfl) hHeld ?_
      try simp only [Act.put, List.setIfInBounds_toArray, List.set_cons_zero, List.set_cons_succ]
      refine held_skip 13 rfl (by kernel_rfl) (by kernel_rfl) (by kernel_rfl) (fun _ _ _ h => h) (by rfl) hHeld ?_
      try simp only [Act.put, List.setIfInBounds_toArray, List.set_cons_zero, List.set_cons_succ]
      refine held_take 14 ?_ rfl (by kernel_rfl) (by kernel_rfl) (by kernel_rfl) (fun _ _ _ h => h) (by rfl) ?_ hHeld ?_
      rotate_left
      · (intro w hSw; (try dsimp only at hSw); go_simp; try with_reducible rfl)
      try simp only [Act.put, List.setIfInBounds_toArray, List.set_cons_zero, List.set_cons_succ]
      refine wpAnyH_done (by kernel_rfl) ?_ _
      clear hHeld
      go_wp2_with fail
      go_meet
      exact ⟨rfl, (Below.refl _ _).drew⟩
    · obtain ⟨m, rfl⟩ : ∃ m, k = m + 1 := ⟨k - 1, by omega⟩
      obtain ⟨p, hp⟩ : ∃ p, es[m]? = some p := ⟨es[m], List.getElem?_eq_getElem (by omega)⟩
      have p0 : w3.cell? ⟨b0, o0 + m * 5, none⟩ = some (.int .i64 p.floor) := (HWE.out.cell (p := ⟨b0, o0 + m * 5, none⟩) hbw).trans (ent_cell HC.out hp (j := 0) (by omega))
      have p1 : w3.cell? ⟨b0, o0 + m * 5 + 1, none⟩ = some (.int .i64 p.dir) := (HWE.out.cell (p := ⟨b0, o0 + m * 5 + 1, none⟩) hbw).trans (ent_cell HC.out hp (j := 1) (by omega))
      have hm : m < es.length := by omega
      have hm' : (m : Int) < es.length := by omega
      have hO : outOfRow (if m + 1 = 0 then none else es[m + 1 - 1]?) ⟨fl, di, ge, aw, bids, bA, bc⟩ = !lessC p.floor p.dir fl di := by
        rw [if_neg (by omega), show m + 1 - 1 = m from rfl, hp, ← cmpC_less]
        rfl
      have HO := hid hO
      clear hO
      have hd : decide ((0 : Int) < ((m + 1 : Nat) : Int)) = true := by rw [decide_eq_true_eq]; omega
      have hwr : IntKind.i64.wrap (m : Int) = m := by have := hR3.lens; rw [IntKind.wrap_i64] <;> omega
      have hcm := fun v => lessCall_any p.floor p.dir fl di v
      go_wp2_with fail
      refine wp_region_held_drew (S := fun w' => w'.cell? ⟨rb, 4, none⟩ = some (.slice (some ⟨b0, o0, none⟩) es.length ec) ∧ w'.cell? ⟨b0, o0 + m * 5, none⟩ = some (.int .i64 p.floor) ∧ w'.cell? ⟨b0, o0 + m * 5 + 1, none⟩ = some (.int .i64 p.dir) ∧ w'.cell? ⟨cb, 0, none⟩ = some (.int .i64 fl) ∧ w'.cell? ⟨cb, 1, none⟩ = some (.int .i64 di)) (by kernel_rfl) ?_ (fun hHeld => ?_)
      · (try dsimp only); (first | exact ⟨hEq3, p0, p1, q0, q1⟩ | exact ⟨hEq4, p0', p1', q0', q1'⟩)
      refine held_take 0 ?_ rfl (by kernel_rfl) (by kernel_rfl) (by kernel_rfl) (fun _ _ _ h => h) (by rfl) ?_ hHeld ?_
      rotate_left
      · (intro w hSw; (try dsimp only at hSw); go_simp; try with_reducible rfl)
      try simp only [Act.put, List.setIfInBounds_toArray, List.set_cons_zero, List.set_cons_succ]
      refine held_take 1 ?_ rfl (by kernel_rfl) (by kernel_rfl) (by kernel_rfl) (fun _ _ _ h => h) (by rfl) ?_ hHeld ?_
      rotate_left
      · (intro w hSw; (try dsimp only at hSw); go_simp; try with_reducible rfl)
      try simp only [Act.put, List.setIfInBounds_toArray, List.set_cons_zero, List.set_cons_succ]
      refine held_take 2 ?_ rfl (by kernel_rfl) (by kernel_rfl) (by kernel_rfl) (fun _ _ _ h => h) (by rfl) ?_ hHeld ?_
      rotate_left
      · (intro w hSw; (try dsimp only at hSw); go_simp; try with_reducible rfl)
      try simp only [Act.put, List.setIfInBounds_toArray, List.set_cons_zero, List.set_cons_succ]
      refine held_take 3 ?_ rfl (by kernel_rfl) (by kernel_rfl) (by kernel_rfl) (fun _ _ _ h => h) (by rfl) ?_ hHeld ?_
      rotate_left
      · (intro w hSw; (try dsimp only at hSw); go_simp; try with_reducible rfl)
      try simp only [Act.put, List.setIfInBounds_toArray, List.set_cons_zero, List.set_cons_succ]
      refine held_take 4 ?_ rfl (by kernel_rfl) (by kernel_rfl) (by kernel_rfl) (fun _ _ _ h => h) (by rfl) ?_ hHeld ?_
      rotate_left
      · (intro w hSw; (try dsimp only at hSw); go_simp; try with_reducible rfl)
      try simp only [Act.put, List.setIfInBounds_toArray, List.set_cons_zero, List.set_cons_succ]
      refine held_take 5 ?_ rfl (by kernel_rfl) (by kernel_rfl) (by kernel_rfl) (fun _ _ _ h => h) (by rfl) ?_ hHeld ?_
      rotate_left
      · (intro w hSw; (try dsimp only at hSw); go_simp; try with_reducible rfl)
      try simp only [Act.put, List.setIfInBounds_toArray, List.set_cons_zero, List.set_cons_succ]
      refine held_take 6 ?_ rfl (by kernel_rfl) (by kernel_rfl) (by kernel_rfl) (fun _ _ _ h => h) (by rfl) ?_ hHeld ?_
      rotate_left
      · (intro w hSw; (try dsimp only at hSw); go_simp; try with_reducible rfl)
      try simp only [Act.put, List.setIfInBounds_toArray, List.set_cons_zero, List.set_cons_succ]
      refine held_take 7 ?_ rfl (by kernel_rfl) (by kernel_rfl) (by kernel_rfl) (fun _ _ _ h => h) (by rfl) ?_ hHeld ?_
      rotate_left
      · (intro w hSw; (try dsimp only at hSw); go_simp; try with_reducible rfl)
      try simp only [Act.put, List.setIfInBounds_toArray, List.set_cons_zero, List.set_cons_succ]
      refine held_take 8 ?_ rfl (by kernel_rfl) (by kernel_rfl) (by kernel_rfl) (fun _ _ _ h => h) (by rfl) ?_ hHeld ?_
      rotate_left
      · (intro w hSw; (try dsimp only at hSw); go_simp; try with_reducible rfl)
      try simp only [Act.put, List.setIfInBounds_toArray, List.set_cons_zero, List.set_cons_succ]
      refine held_take 9 ?_ rfl (by kernel_rfl) (by kernel_rfl) (by kernel_rfl) (fun _ _ _ h => h) (by rfl) ?_ hHeld ?_
      rotate_left
      · (intro w hSw; (try dsimp only at hSw); go_simp; try with_reducible rfl)
      try simp only [Act.put, List.setIfInBounds_toArray, List.set_cons_zero, List.set_cons_succ]
      refine held_take 10 ?_ rfl (by kernel_rfl) (by kernel_rfl) (by kernel_rfl) (fun _ _ _ h => h) (by rfl) ?_ hHeld ?_
      rotate_left
      · (intro w hSw; (try dsimp only at hSw); go_simp; try with_reducible rfl)
      try simp only [Act.put, List.setIfInBounds_toArray, List.set_cons_zero, List.set_cons_succ]
      refine held_take 11 ?_ rfl (by kernel_rfl) (by kernel_rfl) (by kernel_rfl) (fun _ _ _ h => h) (by rfl) ?_ hHeld ?_
      rotate_left
      · (intro w hSw; (try dsimp only at hSw); go_simp; try with_reducible rfl)
      try simp only [Act.put, List.setIfInBounds_toArray, List.set_cons_zero, List.set_cons_succ]
      refine held_one 12 rfl (by kernel_rfl) (by rfl) (fun K hK => ?_)
      go_simp
      refine (hcm _).mono ?_
      rintro e w' ⟨rfl, hb4⟩
      have hEq4 := (hb4.cell (lt_of_cell hEq3)).trans hEq3
      have p0' := (hb4.cell (lt_of_cell p0)).trans p0
      have p1' := (hb4.cell (lt_of_cell p1)).trans p1
      have q0' := (hb4.cell (lt_of_cell q0)).trans q0
      have q1' := (hb4.cell (lt_of_cell q1)).trans q1
      refine hK.out _ _ ?_ (fun hHeld2 => ?_)
      · (try dsimp only); (first | exact ⟨hEq3, p0, p1, q0, q1⟩ | exact ⟨hEq4, p0', p1', q0', q1'⟩)
      clear hK K hHeld
      have hHeld := hHeld2
      clear hHeld2
      try simp only [Act.put, List.setIfInBounds_toArray, List.set_cons_zero, List.set_cons_succ]
      refine held_take 13 ?_ rfl (by kernel_rfl) (by kernel_rfl) (by kernel_rfl) (fun _ _ _ h => h) (by rfl) ?_ hHeld ?_
      rotate_left
      · (intro w hSw; (try dsimp only at hSw); go_simp; try with_reducible rfl)
      try simp only [Act.put, List.setIfInBounds_toArray, List.set_cons_zero, List.set_cons_succ]
      refine held_take 14 ?_ rfl (by kernel_rfl) (by kernel_rfl) (by kernel_rfl) (fun _ _ _ h => h) (by rfl) ?_ hHeld ?_
      rotate_left
      · (intro w hSw; (try dsimp only at hSw); go_simp; try with_reducible rfl)
      try simp only [Act.put, List.setIfInBounds_toArray, List.set_cons_zero, List.set_cons_succ]
      refine wpAnyH_done (by kernel_rfl) ?_ _
      clear hHeld
      go_wp2_with fail
      go_meet
      exact ⟨by rw [HO.out], (Below.refl _ _).drew.trans hb4⟩
    -->
  case rest =>
  obtain ⟨rfl, hb4⟩ := hcut
  have x8 := (Eff.of_below (S := fun _ => False) hb4).blk HX.out.1 (fun h => h)
  have y8 := (Eff.of_below (S := fun _ => False) hb4).blk HX.out.2.1 (fun h => h)
  have HW8 := hid (HW.out.trans (hb4.mono HW.out.size))
  have HV8 := hid (HWE.out.trans (hb4.mono HWE.out.size))
  have R8 := HX.out.2.2.2.1.on hb4
  have r3 : wc.cell? ⟨rb, 3, none⟩ = some (.slice MA ms.length mc) := x8.cell 3
  have e3 : wc.cell? ⟨eb, 3, none⟩ = some (.slice bA bids.length bc) := y8.cell 3
  have hvb := validBids_any MA bA mc bc ms bids wc R8.mem (R8.bid _ (List.mem_of_getElem? HX.out.2.2.2.2)) R8.lens.1 (R8.lens.2.2 _ (List.mem_of_getElem? HX.out.2.2.2.2))
  clear hEq3 q0 q1 hb4 x8 y8 R8 hR3
  cases hO : outOfRow (if k = 0 then none else es[k - 1]?) ⟨fl, di, ge, aw, bids, bA, bc⟩
  case true =>
    have HO : Hid (entAt ms es k = 111) := HEq2.out.trans (if_pos hO)
    have HK := hid (HE5.out.trans (entsE_at es.length k 0 (Nat.zero_le _) (by omega) (fun i _ h => HZ.out i h) (by rw [HO.out]; decide)))
    clear hO
    go_wp2_with fail
    go_ret
    exact ⟨by rw [HK.out, HO.out]; rfl, HW8.out⟩
  case false =>
  have HEq3 : Hid (entAt ms es k = bidsE ms bids) := HEq2.out.trans (if_neg (by rw [hO]; simp))
  clear hO
  by_cases hz : bidsE ms bids = 0
  · rw [hz] at hvb
    have HK : Hid (∀ j, j < k + 1 → entAt ms es j = 0) := by
      intro j hj
      by_cases h : j = k
      · rw [h, HEq3.out, hz]
      · exact HZ.out j (by omega)
    clear hz
    go_wp2_with fail
    refine hvb.mono ?_
    rintro e w9 ⟨rfl, hb9⟩
    have HB9 := hid (HV8.out.trans (hb9.mono HV8.out.size))
    clear hb9 hvb
    go_wp2_with fail
    go_roundw
    case rel => exact ⟨HB9.out, k + 1, by omega, by go_num, HK.out⟩
    case measure => simp [intOf]; omega
  · have HK := hid (HE5.out.trans (entsE_at es.length k 0 (Nat.zero_le _) (by omega) (fun i _ h => HZ.out i h) (by rw [HEq3.out]; exact hz)))
    have hzb : (bidsE ms bids != 0) = true := by simpa using hz
    generalize bidsE ms bids = E2 at *
    clear hz
    go_wp2_with fail
    refine hvb.mono ?_
    rintro e w9 ⟨rfl, hb9⟩
    have HB9 := hid (HW8.out.trans (hb9.mono HW8.out.size))
    clear hb9 hvb
    go_wp2_with fail
    go_ret
    exact ⟨by rw [HK.out, HEq3.out]; rfl, HB9.out⟩

theorem ringP_zero (count founder hop : Int) (ms : List Int) (es : List EntL) : decide (ringP count founder hop ms es = ringP 0 0 0 [] []) = decide (zeroRing count founder hop ms.length es.length) := by
  rw [Bool.eq_iff_iff, decide_eq_true_eq, decide_eq_true_eq]
  simp [ringP, zeroRing]
set_option maxRecDepth 100000 in
set_option maxHeartbeats 8000000 in
theorem refValidF_any (f : FrL) (w : World) (hR : RingIs w f.MA f.ms f.EA f.es) :
    Calls Tryd.prog 40 #[f.val] w (GivesIntB w f.E) := by
  obtain ⟨kind, fr, tt, life, seen, out, count, founder, hop, MA, ms, mc, EA, es, ec⟩ := f
  simp only [FrL.val, FrL.E] at hR ⊢
  obtain ⟨w1, hw1⟩ : ∃ w1, w1 = w.alloc (.cells (frameV kind fr tt life seen out count founder hop MA ms.length mc EA es.length ec) 64) := ⟨_, rfl⟩
  have hb1 : Below w.heap.size w w1 := by rw [hw1]; exact (Below.refl _ _).alloc (Nat.le_refl _) _
  have x1 : Blk w1 w.heap.size (frameL kind fr tt life seen out count founder hop MA ms.length mc EA es.length ec) 64 := by rw [hw1]; exact Blk.new w _ _
  have r0 : w1.cell? ⟨w.heap.size, 0, none⟩ = some (.int .i64 kind) := x1.cell 0
  have r1 : w1.cell? ⟨w.heap.size, 1, none⟩ = some (.int .i64 fr) := x1.cell 1
  have r2 : w1.cell? ⟨w.heap.size, 2, none⟩ = some (.int .i64 tt) := x1.cell 2
  have r3 : w1.cell? ⟨w.heap.size, 3, none⟩ = some (.int .i64 life) := x1.cell 3
  have r4 : w1.cell? ⟨w.heap.size, 4, none⟩ = some (.int .i64 seen) := x1.cell 4
  have r5 : w1.cell? ⟨w.heap.size, 5, none⟩ = some (.bool out) := x1.cell 5
  have r6 : w1.cell? ⟨w.heap.size, 6, none⟩ = some (.int .i64 count) := x1.cell 6
  have r7 : w1.cell? ⟨w.heap.size, 7, none⟩ = some (.int .i64 founder) := x1.cell 7
  have r8 : w1.cell? ⟨w.heap.size, 8, none⟩ = some (.int .i64 hop) := x1.cell 8
  have r9 : w1.cell? ⟨w.heap.size, 9, none⟩ = some (.slice MA ms.length mc) := x1.cell 9
  have r10 : w1.cell? ⟨w.heap.size, 10, none⟩ = some (.slice EA es.length ec) := x1.cell 10
  have hR1 := hR.on hb1
  have c1 := refCar_any fr w1
  have c2 := refCar_any tt w1
  have hz := refSameRing_any count founder hop MA mc ms EA ec es 0 0 0 none 0 [] none 0 [] w1 ⟨hR1.mem, by have := hR1.lens.1; unfold maxLen; omega⟩ ⟨.inl rfl, by simp⟩ (FrOk.ents (f := ⟨kind, fr, tt, life, seen, out, count, founder, hop, MA, ms, mc, EA, es, ec⟩) (ring_fr (g := ⟨kind, fr, tt, life, seen, out, count, founder, hop, MA, ms, mc, EA, es, ec⟩) hR1)) ⟨.inl rfl, by simp, by simp⟩
  rw [ringP_zero] at hz
  have hv := refValidRing_any count founder hop MA mc ms EA ec es w1 hR1
  have HA := hid hb1
  clear hR hR1 hb1 x1
  generalize hE : frameE kind fr tt life seen out count founder hop ms es = E
  have HE := hid hE
  clear hE
  go_enter Tryd.func40, Tryd.ntmps40
  go_upto_region 1 with (fail)
  rw [← hw1]
  clear hw1
  by_cases hk : kind ≠ 1 ∧ kind ≠ 2
  · have HO : Hid (E = 107) := HE.out.symm.trans (if_pos hk)
    have k1 : (kind != 1) = true := by simpa using hk.1
    have k2 : (kind != 2) = true := by simpa using hk.2
    clear hk
    go_wp2_with fail
    go_ret
    exact ⟨by rw [HO.out]; rfl, HA.out⟩
  have HK : Hid (E = if isCar fr = false ∨ isCar tt = false then 103 else if kind = 2 then tokE life seen out count founder hop ms es else if ¬ numOk life ∨ ¬ numOk seen ∨ ¬ zeroRing count founder hop ms.length es.length then 103 else 0) := HE.out.symm.trans (if_neg hk)
  have hk2 : kind = 1 ∨ kind = 2 := by omega
  clear hk HE
  cases hf : isCar fr
  · have HO := hid (HK.out.trans (if_pos (.inl hf)))
    clear HK
    rw [hf] at c1
    clear hf
    rcases hk2 with rfl | rfl
    all_goals
      go_wp2_with fail
      refine c1.mono ?_
      rintro e w' ⟨rfl, rfl⟩
      go_wp2_with fail
      go_ret
      exact ⟨by rw [HO.out]; rfl, HA.out⟩
  rw [hf] at c1
  cases hto : isCar tt
  · have HO := hid (HK.out.trans (if_pos (.inr hto)))
    clear HK
    rw [hto] at c2
    clear hto hf
    rcases hk2 with rfl | rfl
    all_goals
      go_wp2_with fail
      refine c1.mono ?_
      rintro e w' ⟨rfl, rfl⟩
      go_wp2_with fail
      refine c2.mono ?_
      rintro e w' ⟨rfl, rfl⟩
      go_wp2_with fail
      go_ret
      exact ⟨by rw [HO.out]; rfl, HA.out⟩
  rw [hto] at c2
  have HK2 := hid (HK.out.trans (if_neg (show ¬ (isCar fr = false ∨ isCar tt = false) from by rw [hf, hto]; simp)))
  clear HK hf hto
  rcases hk2 with rfl | rfl
  case inr =>
    have HO := hid (HK2.out.trans (if_pos rfl))
    clear HK2
    by_cases hb : life ≠ 0 ∨ seen ≠ 0 ∨ out = true
    · have HT := hid (HO.out.trans (if_pos hb))
      clear HO
      by_cases h1 : life = 0
      · subst h1
        by_cases h2 : seen = 0
        · subst h2
          obtain rfl : out = true := by rcases hb with h | h | h; exact absurd rfl h; exact absurd rfl h; exact h
          clear hb
          go_wp2_with fail
          refine c1.mono ?_
          rintro e w' ⟨rfl, rfl⟩
          go_wp2_with fail
          refine c2.mono ?_
          rintro e w' ⟨rfl, rfl⟩
          go_wp2_with fail
          go_ret
          exact ⟨by rw [HT.out]; rfl, HA.out⟩
        have h2' : (seen != 0) = true := by simpa using h2
        clear hb h2
        go_wp2_with fail
        refine c1.mono ?_
        rintro e w' ⟨rfl, rfl⟩
        go_wp2_with fail
        refine c2.mono ?_
        rintro e w' ⟨rfl, rfl⟩
        go_wp2_with fail
        go_ret
        exact ⟨by rw [HT.out]; rfl, HA.out⟩
      have h1' : (life != 0) = true := by simpa using h1
      clear hb h1
      go_wp2_with fail
      refine c1.mono ?_
      rintro e w' ⟨rfl, rfl⟩
      go_wp2_with fail
      refine c2.mono ?_
      rintro e w' ⟨rfl, rfl⟩
      go_wp2_with fail
      go_ret
      exact ⟨by rw [HT.out]; rfl, HA.out⟩
    have HT := hid (HO.out.trans (if_neg hb))
    simp only [not_or, Bool.not_eq_true, Decidable.not_not] at hb
    obtain ⟨rfl, rfl, rfl⟩ := hb
    clear HO
    go_wp2_with fail
    refine c1.mono ?_
    rintro e w' ⟨rfl, rfl⟩
    go_wp2_with fail
    refine c2.mono ?_
    rintro e w' ⟨rfl, rfl⟩
    go_wp2_with fail
    refine hv.mono ?_
    rintro e w2 ⟨rfl, hb2⟩
    have HB := hid (HA.out.trans (hb2.mono HA.out.size))
    go_wp2_with fail
    go_ret
    exact ⟨by rw [HT.out]; rfl, HB.out⟩
  have HO := hid (HK2.out.trans (if_neg (show ¬ (1 : Int) = 2 by decide)))
  clear HK2 hv
  by_cases hl : numOk life
  case neg =>
    have HT := hid (HO.out.trans (if_pos (.inl hl)))
    clear HO
    by_cases hl0 : life < 0
    · clear hl
      go_wp2_with fail
      refine c1.mono ?_
      rintro e w' ⟨rfl, rfl⟩
      go_wp2_with fail
      refine c2.mono ?_
      rintro e w' ⟨rfl, rfl⟩
      go_wp2_with fail
      go_ret
      exact ⟨by rw [HT.out]; rfl, HA.out⟩
    have hl1 : 281474976710656 ≤ life := by unfold numOk at hl; omega
    have hl2 : 0 ≤ life := by omega
    clear hl hl0
    go_wp2_with fail
    refine c1.mono ?_
    rintro e w' ⟨rfl, rfl⟩
    go_wp2_with fail
    refine c2.mono ?_
    rintro e w' ⟨rfl, rfl⟩
    go_wp2_with fail
    go_ret
    exact ⟨by rw [HT.out]; rfl, HA.out⟩
  by_cases hs : numOk seen
  case neg =>
    have HT := hid (HO.out.trans (if_pos (.inr (.inl hs))))
    have l1 : 0 ≤ life := hl.1
    have l2 : life < 281474976710656 := by have := hl.2; omega
    clear HO hl
    by_cases hl0 : seen < 0
    · clear hs
      go_wp2_with fail
      refine c1.mono ?_
      rintro e w' ⟨rfl, rfl⟩
      go_wp2_with fail
      refine c2.mono ?_
      rintro e w' ⟨rfl, rfl⟩
      go_wp2_with fail
      go_ret
      exact ⟨by rw [HT.out]; rfl, HA.out⟩
    have hl1 : 281474976710656 ≤ seen := by unfold numOk at hs; omega
    have hl2 : 0 ≤ seen := by omega
    clear hs hl0
    go_wp2_with fail
    refine c1.mono ?_
    rintro e w' ⟨rfl, rfl⟩
    go_wp2_with fail
    refine c2.mono ?_
    rintro e w' ⟨rfl, rfl⟩
    go_wp2_with fail
    go_ret
    exact ⟨by rw [HT.out]; rfl, HA.out⟩
  have l1 : 0 ≤ life := hl.1
  have l2 : life < 281474976710656 := by have := hl.2; omega
  have l3 : 0 ≤ seen := hs.1
  have l4 : seen < 281474976710656 := by have := hs.2; omega
  by_cases hh : zeroRing count founder hop ms.length es.length
  · have HT := hid (HO.out.trans (if_neg (show ¬ (¬ numOk life ∨ ¬ numOk seen ∨ ¬ zeroRing count founder hop ms.length es.length) from fun q => q.elim (fun q => q hl) (fun q => q.elim (fun q => q hs) (fun q => q hh)))))
    rw [decide_eq_true hh] at hz
    clear hh hl hs HO
    go_wp2_with fail
    refine c1.mono ?_
    rintro e w' ⟨rfl, rfl⟩
    go_wp2_with fail
    refine c2.mono ?_
    rintro e w' ⟨rfl, rfl⟩
    go_wp2_with fail
    refine hz.mono ?_
    rintro e w2 ⟨rfl, hb2⟩
    have HB := hid (HA.out.trans (hb2.mono HA.out.size))
    go_wp2_with fail
    go_ret
    exact ⟨by rw [HT.out]; rfl, HB.out⟩
  · have HT := hid (HO.out.trans (if_pos (.inr (.inr hh))))
    rw [decide_eq_false hh] at hz
    clear hh hl hs HO
    go_wp2_with fail
    refine c1.mono ?_
    rintro e w' ⟨rfl, rfl⟩
    go_wp2_with fail
    refine c2.mono ?_
    rintro e w' ⟨rfl, rfl⟩
    go_wp2_with fail
    refine hz.mono ?_
    rintro e w2 ⟨rfl, hb2⟩
    have HB := hid (HA.out.trans (hb2.mono HA.out.size))
    go_wp2_with fail
    go_ret
    exact ⟨by rw [HT.out]; rfl, HB.out⟩

def GivesCat (w : World) (P : List Int) (e : Ending) (w' : World) : Prop := ∃ A c, e = .returned (.slice A (cat P).length c) ∧ Sl w' A ((cat P).map (Value.int .u8)) ∧ Below w.heap.size w w'
theorem refPutC_any (n : Int) (hn : inI n) (A : Option Addr) (c : Nat) (P : List Int) (w : World) (hs : Sl w A ((cat P).map (Value.int .u8))) (hP : ∀ n ∈ P, inI n) (hl : P.length ≤ 20000) :
    Calls Tryd.prog 27 #[.slice A (cat P).length c, .int .i64 n] w (GivesCat w (P ++ [n])) := by
  have h := refPut_any n hn A c (cat P) w hs (by have := cat_len hP; omega)
  refine h.mono ?_
  rintro e w' ⟨v, rfl, hown, hb⟩
  obtain ⟨A1, c1, rfl, _, _, hs1⟩ := Sl.row hown
  have hc : cat P ++ form (zz n) = cat (P ++ [n]) := by simp [cat]
  rw [hc] at hs1 ⊢
  exact ⟨A1, c1, rfl, hs1, hb⟩
theorem refBit_any (o : Bool) (w : World) : Calls Tryd.prog 62 #[.bool o] w fun e w' => e = .returned (.int .i64 (bit o)) ∧ w = w' := by
  cases o
  all_goals
    go_enter Tryd.func62, Tryd.ntmps62
    go_wp2_with fail
    go_ret
    exact ⟨rfl, rfl⟩
theorem inI_small {n : Int} (h : -1 ≤ n ∧ n ≤ 281474976710655) : inI n := by unfold inI; omega
theorem refPutX_any {All P' P : List Int} {n : Int} (R : List Int) (A : Option Addr) (c : Nat) (w : World) (hs : Sl w A ((cat P).map (Value.int .u8))) (hP : P' = P ++ [n]) (hA : P' ++ R = All) (hin : ∀ n ∈ All, inI n) (hl : All.length ≤ 20000) :
    Calls Tryd.prog 27 #[.slice A (cat P).length c, .int .i64 n] w (GivesCat w P') := by
  subst hA hP
  exact refPutC_any n (hin n (by simp)) A c P w hs (fun m h => hin m (by simp [h])) (by simp at hl; omega)
def PutRelG (W : World) (P : Nat → List Int) (m : Nat) (v i : Value) (wr : World) : Prop :=
  ∃ (k : Nat) (A : Option Addr) (c : Nat), k ≤ m ∧ i = .int .i64 k ∧ v = .slice A (cat (P k)).length c ∧ Sl wr A ((cat (P k)).map (Value.int .u8)) ∧ Below W.heap.size W wr
attribute [irreducible] PutRelG
theorem cat_b1 : cat [40, -1] = [80, 1] := by simp [cat, zz, form_small]
theorem cat_b2 : cat [40, 1] = [80, 2] := by simp [cat, zz, form_small]
theorem sl_two (w : World) (a b : Int) : Sl (w.alloc (.cells #[.int .u8 a, .int .u8 b] 5)).drew (some ⟨w.heap.size, 0, none⟩) ([a, b].map (Value.int .u8)) := by
  have h : Blk (w.alloc (.cells #[.int .u8 a, .int .u8 b] 5)).drew w.heap.size [.int .u8 a, .int .u8 b] 5 := (Blk.new w _ _).drew
  exact .inr ⟨_, 0, rfl, h.lt, fun k hk => by rw [Nat.zero_add]; exact h.cell k⟩
theorem refPutC2_any (n : Int) (hn : inI n) (A : Option Addr) (c : Nat) (P : List Int) (w : World) (hs : Sl w A ((cat P).map (Value.int .u8))) {l : Nat} (hl2 : (cat P).length = l) (hP : ∀ n ∈ P, inI n) (hl : P.length ≤ 20000) :
    Calls Tryd.prog 27 #[.slice A l c, .int .i64 n] w (GivesCat w (P ++ [n])) := hl2 ▸ refPutC_any n hn A c P w hs hP hl
set_option maxRecDepth 100000 in
set_option maxHeartbeats 8000000 in
theorem refBeatF_any (f : FrL) (w : World) (hv : f.E = 0) (hk : f.kind = 1) :
    Calls Tryd.prog 41 #[f.val] w (GivesCat w (frameNs f.kind f.fr f.tt f.life f.seen f.out f.count f.founder f.hop f.ms f.es)) := by
  have hfr := (frameE_valid hv).1
  have htt := (frameE_valid hv).2.1
  have hls : numOk f.life ∧ numOk f.seen := by
    rcases (frameE_valid hv).2.2 with h | h
    · exact ⟨h.2.1, h.2.2.1⟩
    · have := h.1; omega
  have hin := frameNs_in hv
  obtain ⟨kind, fr, tt, life, seen, out, count, founder, hop, MA, ms, mc, EA, es, ec⟩ := f
  simp only [FrL.val] at *
  subst hk
  have hNs : frameNs 1 fr tt life seen out count founder hop ms es = [40, -1, fr, tt, life, seen, bit out] := if_pos rfl
  rw [hNs] at hin ⊢
  obtain ⟨w1, hw1⟩ : ∃ w1, w1 = w.alloc (.cells (frameV 1 fr tt life seen out count founder hop MA ms.length mc EA es.length ec) 64) := ⟨_, rfl⟩
  have hb1 : Below w.heap.size w w1 := by rw [hw1]; exact (Below.refl _ _).alloc (Nat.le_refl _) _
  have x1 : Blk w1 w.heap.size (frameL 1 fr tt life seen out count founder hop MA ms.length mc EA es.length ec) 64 := by rw [hw1]; exact Blk.new w _ _
  have HX := hid (And.intro hb1 (And.intro x1 hin))
  have HC : Hid (∀ w', Below w1.heap.size w1 w' → w'.cell? ⟨w.heap.size, 0, none⟩ = some (.int .i64 1) ∧ w'.cell? ⟨w.heap.size, 1, none⟩ = some (.int .i64 fr) ∧ w'.cell? ⟨w.heap.size, 2, none⟩ = some (.int .i64 tt) ∧ w'.cell? ⟨w.heap.size, 3, none⟩ = some (.int .i64 life) ∧ w'.cell? ⟨w.heap.size, 4, none⟩ = some (.int .i64 seen) ∧ w'.cell? ⟨w.heap.size, 5, none⟩ = some (.bool out)) := fun w' hb => by
    have x2 := (Eff.of_below (S := fun _ => False) hb).blk x1 (fun h => h)
    exact ⟨x2.cell 0, x2.cell 1, x2.cell 2, x2.cell 3, x2.cell 4, x2.cell 5⟩
  have b0 : Below w1.heap.size w1 w1 := Below.refl _ _
  have r0 : w1.cell? ⟨w.heap.size, 0, none⟩ = some (.int .i64 1) := x1.cell 0
  have hw1b : IntKind.u8.wrap 1 = 1 := by decide
  clear hv hNs hb1 x1 hin
  go_enter Tryd.func41, Tryd.ntmps41
  go_upto_region 1 with (fail)
  rw [← hw1]
  clear hw1
  go_wp2_with fail
  refine wp_region_held_drew (S := fun w' => w'.cell? ⟨w.heap.size, 0, none⟩ = some (.int .i64 1) ∧ w'.cell? ⟨w.heap.size, 1, none⟩ = some (.int .i64 fr) ∧ w'.cell? ⟨w.heap.size, 2, none⟩ = some (.int .i64 tt) ∧ w'.cell? ⟨w.heap.size, 3, none⟩ = some (.int .i64 life) ∧ w'.cell? ⟨w.heap.size, 4, none⟩ = some (.int .i64 seen) ∧ w'.cell? ⟨w.heap.size, 5, none⟩ = some (.bool out)) (by kernel_rfl) ?_ (fun hHeld => ?_)
  · (try dsimp only); (first | exact HC.out _ (by assumption) | exact HC.out _ (below_drewN (by assumption) 1))
  refine held_take 0 ?_ rfl (by kernel_rfl) (by kernel_rfl) (by kernel_rfl) (fun _ _ _ h => h) (by rfl) ?_ hHeld ?_
  rotate_left
  · (intro w hSw; (try dsimp only at hSw); go_simp; try with_reducible rfl)
  try simp only [Act.put, List.setIfInBounds_toArray, List.set_cons_zero, List.set_cons_succ]
  refine held_take 1 ?_ rfl (by kernel_rfl) (by kernel_rfl) (by kernel_rfl) (fun _ _ _ h => h) (by rfl) ?_ hHeld ?_
  rotate_left
  · (intro w hSw; (try dsimp only at hSw); go_simp; try with_reducible rfl)
  try simp only [Act.put, List.setIfInBounds_toArray, List.set_cons_zero, List.set_cons_succ]
  refine held_take 2 ?_ rfl (by kernel_rfl) (by kernel_rfl) (by kernel_rfl) (fun _ _ _ h => h) (by rfl) ?_ hHeld ?_
  rotate_left
  · (intro w hSw; (try dsimp only at hSw); go_simp; try with_reducible rfl)
  try simp only [Act.put, List.setIfInBounds_toArray, List.set_cons_zero, List.set_cons_succ]
  refine held_take 4 ?_ rfl (by kernel_rfl) (by kernel_rfl) (by kernel_rfl) (fun _ _ _ h => h) (by rfl) ?_ hHeld ?_
  rotate_left
  · (intro w hSw; (try dsimp only at hSw); go_simp; try with_reducible rfl)
  try simp only [Act.put, List.setIfInBounds_toArray, List.set_cons_zero, List.set_cons_succ]
  refine held_take 5 ?_ rfl (by kernel_rfl) (by kernel_rfl) (by kernel_rfl) (fun _ _ _ h => h) (by rfl) ?_ hHeld ?_
  rotate_left
  · (intro w hSw; (try dsimp only at hSw); go_simp; try with_reducible rfl)
  try simp only [Act.put, List.setIfInBounds_toArray, List.set_cons_zero, List.set_cons_succ]
  refine held_take 7 ?_ rfl (by kernel_rfl) (by kernel_rfl) (by kernel_rfl) (fun _ _ _ h => h) (by rfl) ?_ hHeld ?_
  rotate_left
  · (intro w hSw; (try dsimp only at hSw); go_simp; try with_reducible rfl)
  try simp only [Act.put, List.setIfInBounds_toArray, List.set_cons_zero, List.set_cons_succ]
  refine held_take 8 ?_ rfl (by kernel_rfl) (by kernel_rfl) (by kernel_rfl) (fun _ _ _ h => h) (by rfl) ?_ hHeld ?_
  rotate_left
  · (intro w hSw; (try dsimp only at hSw); go_simp; try with_reducible rfl)
  try simp only [Act.put, List.setIfInBounds_toArray, List.set_cons_zero, List.set_cons_succ]
  refine held_one 3 rfl (by kernel_rfl) (by rfl) (fun K hK => ?_)
  go_simp
  have b2 : Below w1.heap.size w1 (w1.alloc (.cells #[.int .u8 80, .int .u8 1] 5)).drew := ((Below.refl _ _).alloc (Nat.le_refl _) _).drew
  have s2 : Sl (w1.alloc (.cells #[.int .u8 80, .int .u8 1] 5)).drew (some ⟨w1.heap.size, 0, none⟩) ((cat [40, -1]).map (Value.int .u8)) := by rw [cat_b1]; exact sl_two w1 80 1
  generalize (w1.alloc (.cells #[.int .u8 80, .int .u8 1] 5)).drew = w2 at *
  refine hK.out _ _ ?_ (fun hHeld2 => ?_)
  · (try dsimp only); (first | exact HC.out _ (by assumption) | exact HC.out _ (below_drewN (by assumption) 1))
  clear hK K hHeld
  have hHeld := hHeld2
  clear hHeld2
  try simp only [Act.put, List.setIfInBounds_toArray, List.set_cons_zero, List.set_cons_succ]
  refine held_one 6 rfl (by kernel_rfl) (by rfl) (fun K hK => ?_)
  go_simp
  refine (refPutC2_any fr (inI_small (by omega)) _ 2 [40, -1] w2 s2 (by rw [cat_b1]; rfl) (fun n h => HX.out.2.2 n (by simp at h ⊢; rcases h with h | h <;> simp [h])) (by simp)).mono ?_
  rintro e w3 ⟨A3, c3, rfl, s3, hb3⟩
  have b3 := b2.trans (hb3.mono b2.size)
  refine hK.out _ _ ?_ (fun hHeld2 => ?_)
  · (try dsimp only); (first | exact HC.out _ (by assumption) | exact HC.out _ (below_drewN (by assumption) 1))
  clear hK K hHeld
  have hHeld := hHeld2
  clear hHeld2
  try simp only [Act.put, List.setIfInBounds_toArray, List.set_cons_zero, List.set_cons_succ]
  refine held_one 9 rfl (by kernel_rfl) (by rfl) (fun K hK => ?_)
  go_simp
  refine (refPutC_any tt (inI_small (by omega)) A3 c3 _ w3 s3 (fun n h => HX.out.2.2 n (by simp at h ⊢; rcases h with h | h | h <;> simp [h])) (by simp)).mono ?_
  rintro e w4 ⟨A4, c4, rfl, s4, hb4⟩
  have b4 := b3.trans (hb4.mono b3.size)
  refine hK.out _ _ ?_ (fun hHeld2 => ?_)
  · (try dsimp only); (first | exact HC.out _ (by assumption) | exact HC.out _ (below_drewN (by assumption) 1))
  clear hK K hHeld
  have hHeld := hHeld2
  clear hHeld2
  try simp only [Act.put, List.setIfInBounds_toArray, List.set_cons_zero, List.set_cons_succ]
  refine held_take 10 ?_ rfl (by kernel_rfl) (by kernel_rfl) (by kernel_rfl) (fun _ _ _ h => h) (by rfl) ?_ hHeld ?_
  rotate_left
  · (intro w hSw; (try dsimp only at hSw); go_simp; try with_reducible rfl)
  try simp only [Act.put, List.setIfInBounds_toArray, List.set_cons_zero, List.set_cons_succ]
  refine wpAnyH_done (by kernel_rfl) ?_ _
  clear hHeld
  have r0 := (HC.out _ b4).1
  clear s2 s3 b2 b3 hb3 hb4
  go_wp2_with fail
  refine wp_region_held_drew (S := fun w' => w'.cell? ⟨w.heap.size, 0, none⟩ = some (.int .i64 1) ∧ w'.cell? ⟨w.heap.size, 1, none⟩ = some (.int .i64 fr) ∧ w'.cell? ⟨w.heap.size, 2, none⟩ = some (.int .i64 tt) ∧ w'.cell? ⟨w.heap.size, 3, none⟩ = some (.int .i64 life) ∧ w'.cell? ⟨w.heap.size, 4, none⟩ = some (.int .i64 seen) ∧ w'.cell? ⟨w.heap.size, 5, none⟩ = some (.bool out)) (by kernel_rfl) ?_ (fun hHeld => ?_)
  · (try dsimp only); (first | exact HC.out _ (by assumption) | exact HC.out _ (below_drewN (by assumption) 1))
  refine held_take 0 ?_ rfl (by kernel_rfl) (by kernel_rfl) (by kernel_rfl) (fun _ _ _ h => h) (by rfl) ?_ hHeld ?_
  rotate_left
  · (intro w hSw; (try dsimp only at hSw); go_simp; try with_reducible rfl)
  try simp only [Act.put, List.setIfInBounds_toArray, List.set_cons_zero, List.set_cons_succ]
  refine held_take 1 ?_ rfl (by kernel_rfl) (by kernel_rfl) (by kernel_rfl) (fun _ _ _ h => h) (by rfl) ?_ hHeld ?_
  rotate_left
  · (intro w hSw; (try dsimp only at hSw); go_simp; try with_reducible rfl)
  try simp only [Act.put, List.setIfInBounds_toArray, List.set_cons_zero, List.set_cons_succ]
  refine held_take 2 ?_ rfl (by kernel_rfl) (by kernel_rfl) (by kernel_rfl) (fun _ _ _ h => h) (by rfl) ?_ hHeld ?_
  rotate_left
  · (intro w hSw; (try dsimp only at hSw); go_simp; try with_reducible rfl)
  try simp only [Act.put, List.setIfInBounds_toArray, List.set_cons_zero, List.set_cons_succ]
  refine held_take 4 ?_ rfl (by kernel_rfl) (by kernel_rfl) (by kernel_rfl) (fun _ _ _ h => h) (by rfl) ?_ hHeld ?_
  rotate_left
  · (intro w hSw; (try dsimp only at hSw); go_simp; try with_reducible rfl)
  try simp only [Act.put, List.setIfInBounds_toArray, List.set_cons_zero, List.set_cons_succ]
  refine held_take 5 ?_ rfl (by kernel_rfl) (by kernel_rfl) (by kernel_rfl) (fun _ _ _ h => h) (by rfl) ?_ hHeld ?_
  rotate_left
  · (intro w hSw; (try dsimp only at hSw); go_simp; try with_reducible rfl)
  try simp only [Act.put, List.setIfInBounds_toArray, List.set_cons_zero, List.set_cons_succ]
  refine held_take 7 ?_ rfl (by kernel_rfl) (by kernel_rfl) (by kernel_rfl) (fun _ _ _ h => h) (by rfl) ?_ hHeld ?_
  rotate_left
  · (intro w hSw; (try dsimp only at hSw); go_simp; try with_reducible rfl)
  try simp only [Act.put, List.setIfInBounds_toArray, List.set_cons_zero, List.set_cons_succ]
  refine held_take 8 ?_ rfl (by kernel_rfl) (by kernel_rfl) (by kernel_rfl) (fun _ _ _ h => h) (by rfl) ?_ hHeld ?_
  rotate_left
  · (intro w hSw; (try dsimp only at hSw); go_simp; try with_reducible rfl)
  try simp only [Act.put, List.setIfInBounds_toArray, List.set_cons_zero, List.set_cons_succ]
  refine held_one 3 rfl (by kernel_rfl) (by rfl) (fun K hK => ?_)
  go_simp
  refine (refPutC_any life (inI_small (by have := hls.1.1; have := hls.1.2; omega)) A4 c4 _ _ (by first | exact s4 | exact s4.drew) (fun n h => HX.out.2.2 n (by simp at h ⊢; rcases h with h | h | h | h <;> simp [h])) (by simp)).mono ?_
  rintro e w5 ⟨A5, c5, rfl, s5, hb5⟩
  have b5 : Below w1.heap.size w1 w5 := (b4.drew).trans (hb5.mono b4.size)
  refine hK.out _ _ ?_ (fun hHeld2 => ?_)
  · (try dsimp only); (first | exact HC.out _ (by assumption) | exact HC.out _ (below_drewN (by assumption) 1))
  clear hK K hHeld
  have hHeld := hHeld2
  clear hHeld2
  try simp only [Act.put, List.setIfInBounds_toArray, List.set_cons_zero, List.set_cons_succ]
  refine held_one 6 rfl (by kernel_rfl) (by rfl) (fun K hK => ?_)
  go_simp
  refine (refPutC_any seen (inI_small (by have := hls.2.1; have := hls.2.2; omega)) A5 c5 _ _ s5 (fun n h => HX.out.2.2 n (by simp at h ⊢; rcases h with h | h | h | h | h <;> simp [h])) (by simp)).mono ?_
  rintro e w6 ⟨A6, c6, rfl, s6, hb6⟩
  have b6 := b5.trans (hb6.mono b5.size)
  refine hK.out _ _ ?_ (fun hHeld2 => ?_)
  · (try dsimp only); (first | exact HC.out _ (by assumption) | exact HC.out _ (below_drewN (by assumption) 1))
  clear hK K hHeld
  have hHeld := hHeld2
  clear hHeld2
  try simp only [Act.put, List.setIfInBounds_toArray, List.set_cons_zero, List.set_cons_succ]
  refine held_one 9 rfl (by kernel_rfl) (by rfl) (fun K hK => ?_)
  go_simp
  refine (refBit_any out _).mono ?_
  rintro e w' ⟨rfl, rfl⟩
  refine hK.out _ _ ?_ (fun hHeld2 => ?_)
  · (try dsimp only); (first | exact HC.out _ (by assumption) | exact HC.out _ (below_drewN (by assumption) 1))
  clear hK K hHeld
  have hHeld := hHeld2
  clear hHeld2
  try simp only [Act.put, List.setIfInBounds_toArray, List.set_cons_zero, List.set_cons_succ]
  refine held_one 10 rfl (by kernel_rfl) (by rfl) (fun K hK => ?_)
  go_simp
  refine (refPutC_any (bit out) (HX.out.2.2 _ (by simp)) A6 c6 _ _ s6 (fun n h => HX.out.2.2 n (by simp at h ⊢; rcases h with h | h | h | h | h | h <;> simp [h])) (by simp)).mono ?_
  rintro e w7 ⟨A7, c7, rfl, s7, hb7⟩
  have b7 := b6.trans (hb7.mono b6.size)
  refine hK.out _ _ ?_ (fun hHeld2 => ?_)
  · (try dsimp only); (first | exact HC.out _ (by assumption) | exact HC.out _ (below_drewN (by assumption) 1))
  clear hK K hHeld
  have hHeld := hHeld2
  clear hHeld2
  try simp only [Act.put, List.setIfInBounds_toArray, List.set_cons_zero, List.set_cons_succ]
  refine held_take 11 ?_ rfl (by kernel_rfl) (by kernel_rfl) (by kernel_rfl) (fun _ _ _ h => h) (by rfl) ?_ hHeld ?_
  rotate_left
  · (intro w hSw; (try dsimp only at hSw); go_simp; try with_reducible rfl)
  try simp only [Act.put, List.setIfInBounds_toArray, List.set_cons_zero, List.set_cons_succ]
  refine wpAnyH_done (by kernel_rfl) ?_ _
  clear hHeld
  go_wp2_with fail
  go_ret
  exact ⟨_, _, rfl, s7, HX.out.1.trans (b7.mono HX.out.1.size)⟩
set_option maxRecDepth 100000 in
set_option maxHeartbeats 8000000 in
theorem refTokF_any (f : FrL) (w : World) (hv : f.E = 0) (hk : f.kind = 2) (hR : RingIs w f.MA f.ms f.EA f.es) :
    Calls Tryd.prog 41 #[f.val] w (GivesCat w (frameNs f.kind f.fr f.tt f.life f.seen f.out f.count f.founder f.hop f.ms f.es)) := by
  have hfr := (frameE_valid hv).1
  have htt := (frameE_valid hv).2.1
  have hrv : RingV f.count f.founder f.hop f.ms f.es := by
    rcases (frameE_valid hv).2.2 with h | h
    · have := h.1; omega
    · exact h.2.2.2.2
  have hin := frameNs_in hv
  obtain ⟨kind, fr, tt, life, seen, out, count, founder, hop, MA, ms, mc, EA, es, ec⟩ := f
  simp only [FrL.val] at *
  subst hk
  have hNs : frameNs 2 fr tt life seen out count founder hop ms es = [40, 1, fr, tt] ++ ringNs count founder hop ms es := if_neg (by decide)
  rw [hNs] at hin ⊢
  have hlen : ([40, 1, fr, tt] ++ ringNs count founder hop ms es).length ≤ 20000 := by have := ringNs_len hrv; simp; omega
  obtain ⟨w1, hw1⟩ : ∃ w1, w1 = w.alloc (.cells (frameV 2 fr tt life seen out count founder hop MA ms.length mc EA es.length ec) 64) := ⟨_, rfl⟩
  have hb1 : Below w.heap.size w w1 := by rw [hw1]; exact (Below.refl _ _).alloc (Nat.le_refl _) _
  have x1 : Blk w1 w.heap.size (frameL 2 fr tt life seen out count founder hop MA ms.length mc EA es.length ec) 64 := by rw [hw1]; exact Blk.new w _ _
  have HN : Hid ((∀ n ∈ [40, 1, fr, tt] ++ ringNs count founder hop ms es, inI n) ∧ ([40, 1, fr, tt] ++ ringNs count founder hop ms es).length ≤ 20000) := ⟨hin, hlen⟩
  have HX := hid (And.intro hb1 (And.intro x1 (And.intro hrv (hR.on hb1))))
  have HC : Hid (∀ w', Below w1.heap.size w1 w' → w'.cell? ⟨w.heap.size, 0, none⟩ = some (.int .i64 2) ∧ w'.cell? ⟨w.heap.size, 1, none⟩ = some (.int .i64 fr) ∧ w'.cell? ⟨w.heap.size, 2, none⟩ = some (.int .i64 tt)) := fun w' hb => by
    have x2 := (Eff.of_below (S := fun _ => False) hb).blk x1 (fun h => h)
    exact ⟨x2.cell 0, x2.cell 1, x2.cell 2⟩
  have b0 : Below w1.heap.size w1 w1 := Below.refl _ _
  have r0 : w1.cell? ⟨w.heap.size, 0, none⟩ = some (.int .i64 2) := x1.cell 0
  have hw1b : IntKind.u8.wrap 2 = 2 := by decide
  obtain ⟨NS, eNS⟩ : ∃ NS, NS = [40, 1, fr, tt] ++ ringNs count founder hop ms es := ⟨_, rfl⟩
  rw [← eNS] at HN ⊢
  have HE := hid eNS
  clear hv hNs hb1 x1 hin hrv hR hlen eNS
  go_enter Tryd.func41, Tryd.ntmps41
  go_upto_region 1 with (fail)
  rw [← hw1]
  clear hw1
  go_wp2_with fail
  refine wp_region_held_drew (S := fun w' => w'.cell? ⟨w.heap.size, 0, none⟩ = some (.int .i64 2) ∧ w'.cell? ⟨w.heap.size, 1, none⟩ = some (.int .i64 fr) ∧ w'.cell? ⟨w.heap.size, 2, none⟩ = some (.int .i64 tt)) (by kernel_rfl) ?_ (fun hHeld => ?_)
  · (try dsimp only); (first | exact HC.out _ (by assumption) | exact HC.out _ (below_drewN (by assumption) 1))
  refine held_take 0 ?_ rfl (by kernel_rfl) (by kernel_rfl) (by kernel_rfl) (fun _ _ _ h => h) (by rfl) ?_ hHeld ?_
  rotate_left
  · (intro w hSw; (try dsimp only at hSw); go_simp; try with_reducible rfl)
  try simp only [Act.put, List.setIfInBounds_toArray, List.set_cons_zero, List.set_cons_succ]
  refine held_take 1 ?_ rfl (by kernel_rfl) (by kernel_rfl) (by kernel_rfl) (fun _ _ _ h => h) (by rfl) ?_ hHeld ?_
  rotate_left
  · (intro w hSw; (try dsimp only at hSw); go_simp; try with_reducible rfl)
  try simp only [Act.put, List.setIfInBounds_toArray, List.set_cons_zero, List.set_cons_succ]
  refine held_take 2 ?_ rfl (by kernel_rfl) (by kernel_rfl) (by kernel_rfl) (fun _ _ _ h => h) (by rfl) ?_ hHeld ?_
  rotate_left
  · (intro w hSw; (try dsimp only at hSw); go_simp; try with_reducible rfl)
  try simp only [Act.put, List.setIfInBounds_toArray, List.set_cons_zero, List.set_cons_succ]
  refine held_take 4 ?_ rfl (by kernel_rfl) (by kernel_rfl) (by kernel_rfl) (fun _ _ _ h => h) (by rfl) ?_ hHeld ?_
  rotate_left
  · (intro w hSw; (try dsimp only at hSw); go_simp; try with_reducible rfl)
  try simp only [Act.put, List.setIfInBounds_toArray, List.set_cons_zero, List.set_cons_succ]
  refine held_take 5 ?_ rfl (by kernel_rfl) (by kernel_rfl) (by kernel_rfl) (fun _ _ _ h => h) (by rfl) ?_ hHeld ?_
  rotate_left
  · (intro w hSw; (try dsimp only at hSw); go_simp; try with_reducible rfl)
  try simp only [Act.put, List.setIfInBounds_toArray, List.set_cons_zero, List.set_cons_succ]
  refine held_take 7 ?_ rfl (by kernel_rfl) (by kernel_rfl) (by kernel_rfl) (fun _ _ _ h => h) (by rfl) ?_ hHeld ?_
  rotate_left
  · (intro w hSw; (try dsimp only at hSw); go_simp; try with_reducible rfl)
  try simp only [Act.put, List.setIfInBounds_toArray, List.set_cons_zero, List.set_cons_succ]
  refine held_take 8 ?_ rfl (by kernel_rfl) (by kernel_rfl) (by kernel_rfl) (fun _ _ _ h => h) (by rfl) ?_ hHeld ?_
  rotate_left
  · (intro w hSw; (try dsimp only at hSw); go_simp; try with_reducible rfl)
  try simp only [Act.put, List.setIfInBounds_toArray, List.set_cons_zero, List.set_cons_succ]
  refine held_one 3 rfl (by kernel_rfl) (by rfl) (fun K hK => ?_)
  go_simp
  have b2 : Below w1.heap.size w1 (w1.alloc (.cells #[.int .u8 80, .int .u8 2] 5)).drew := ((Below.refl _ _).alloc (Nat.le_refl _) _).drew
  have s2 : Sl (w1.alloc (.cells #[.int .u8 80, .int .u8 2] 5)).drew (some ⟨w1.heap.size, 0, none⟩) ((cat [40, 1]).map (Value.int .u8)) := by rw [cat_b2]; exact sl_two w1 80 2
  generalize (w1.alloc (.cells #[.int .u8 80, .int .u8 2] 5)).drew = w2 at *
  refine hK.out _ _ ?_ (fun hHeld2 => ?_)
  · (try dsimp only); (first | exact HC.out _ (by assumption) | exact HC.out _ (below_drewN (by assumption) 1))
  clear hK K hHeld
  have hHeld := hHeld2
  clear hHeld2
  try simp only [Act.put, List.setIfInBounds_toArray, List.set_cons_zero, List.set_cons_succ]
  refine held_one 6 rfl (by kernel_rfl) (by rfl) (fun K hK => ?_)
  go_simp
  refine (refPutC2_any fr (inI_small (by omega)) _ 2 [40, 1] w2 s2 (by rw [cat_b2]; rfl) (fun n h => HN.out.1 n (by rw [HE.out]; simp at h ⊢; rcases h with h | h <;> simp [h])) (by simp)).mono ?_
  rintro e w3 ⟨A3, c3, rfl, s3, hb3⟩
  have b3 := b2.trans (hb3.mono b2.size)
  refine hK.out _ _ ?_ (fun hHeld2 => ?_)
  · (try dsimp only); (first | exact HC.out _ (by assumption) | exact HC.out _ (below_drewN (by assumption) 1))
  clear hK K hHeld
  have hHeld := hHeld2
  clear hHeld2
  try simp only [Act.put, List.setIfInBounds_toArray, List.set_cons_zero, List.set_cons_succ]
  refine held_one 9 rfl (by kernel_rfl) (by rfl) (fun K hK => ?_)
  go_simp
  refine (refPutC_any tt (inI_small (by omega)) A3 c3 _ w3 s3 (fun n h => HN.out.1 n (by rw [HE.out]; simp at h ⊢; rcases h with h | h | h <;> simp [h])) (by simp)).mono ?_
  rintro e w4 ⟨A4, c4, rfl, s4, hb4⟩
  have b4 := b3.trans (hb4.mono b3.size)
  refine hK.out _ _ ?_ (fun hHeld2 => ?_)
  · (try dsimp only); (first | exact HC.out _ (by assumption) | exact HC.out _ (below_drewN (by assumption) 1))
  clear hK K hHeld
  have hHeld := hHeld2
  clear hHeld2
  try simp only [Act.put, List.setIfInBounds_toArray, List.set_cons_zero, List.set_cons_succ]
  refine held_take 10 ?_ rfl (by kernel_rfl) (by kernel_rfl) (by kernel_rfl) (fun _ _ _ h => h) (by rfl) ?_ hHeld ?_
  rotate_left
  · (intro w hSw; (try dsimp only at hSw); go_simp; try with_reducible rfl)
  try simp only [Act.put, List.setIfInBounds_toArray, List.set_cons_zero, List.set_cons_succ]
  refine wpAnyH_done (by kernel_rfl) ?_ _
  clear hHeld
  have r0 := (HC.out _ b4).1
  have x4 := (Eff.of_below (S := fun _ => False) b4).blk HX.out.2.1 (fun h => h)
  have r6 : w4.cell? ⟨w.heap.size, 6, none⟩ = some (.int .i64 count) := x4.cell 6
  have r7 : w4.cell? ⟨w.heap.size, 7, none⟩ = some (.int .i64 founder) := x4.cell 7
  have r8 : w4.cell? ⟨w.heap.size, 8, none⟩ = some (.int .i64 hop) := x4.cell 8
  have r9 : w4.cell? ⟨w.heap.size, 9, none⟩ = some (.slice MA ms.length mc) := x4.cell 9
  have r10 : w4.cell? ⟨w.heap.size, 10, none⟩ = some (.slice EA es.length ec) := x4.cell 10
  clear s2 s3 b2 b3 hb3 hb4 x4
  have s4' : Sl w4 A4 ((cat [40, 1, fr, tt]).map (Value.int .u8)) := s4
  clear s4
  have hb6 : Below w4.heap.size w4 (w4.alloc (.cells (ringV count founder hop MA ms.length mc EA es.length ec) 53)) := (Below.refl _ _).alloc (Nat.le_refl _) _
  have hr6 : Blk (w4.alloc (.cells (ringV count founder hop MA ms.length mc EA es.length ec) 53)) w4.heap.size (ringL count founder hop MA ms.length mc EA es.length ec) 53 := Blk.new w4 _ _
  have s6 := It2 s4' hb6
  have B6 := HX.out.1.trans ((b4.trans (hb6.mono b4.size)).mono HX.out.1.size)
  have hR6 := HX.out.2.2.2.on (b4.trans (hb6.mono b4.size))
  go_upto_region 5 with (fail)
  generalize w4.alloc (.cells (ringV count founder hop MA ms.length mc EA es.length ec) 53) = w6 at *
  generalize w4.heap.size = rb at *
  have hrv := HX.out.2.2.1
  clear hb6 s4' b4 r0 r6 r7 r8 r9 r10 b0 HC HX
  have HB6 := hid (And.intro B6 (And.intro hR6 hrv))
  have hmn := hrv.many
  have HRB : Hid (∀ w', Below w6.heap.size w6 w' → w'.cell? ⟨rb, 0, none⟩ = some (.int .i64 count) ∧ w'.cell? ⟨rb, 1, none⟩ = some (.int .i64 founder) ∧ w'.cell? ⟨rb, 2, none⟩ = some (.int .i64 hop)) := fun w' hb => by
    have x2 := (Eff.of_below (S := fun _ => False) hb).blk hr6 (fun h => h)
    exact ⟨x2.cell 0, x2.cell 1, x2.cell 2⟩
  have HRC : Hid (∀ w', Below w6.heap.size w6 w' → w'.cell? ⟨rb, 3, none⟩ = some (.slice MA ms.length mc) ∧ w'.cell? ⟨rb, 4, none⟩ = some (.slice EA es.length ec)) := fun w' hb => by
    have x2 := (Eff.of_below (S := fun _ => False) hb).blk hr6 (fun h => h)
    exact ⟨x2.cell 3, x2.cell 4⟩
  have b6 : Below w6.heap.size w6 w6 := Below.refl _ _
  clear B6 hR6 hrv hr6
  generalize hP0 : ([40, 1, fr, tt] : List Int) = P0 at *
  obtain ⟨Pa, ha⟩ : ∃ Pa, Pa = P0 ++ [count] := ⟨_, rfl⟩
  obtain ⟨Pb, hb⟩ : ∃ Pb, Pb = Pa ++ [founder] := ⟨_, rfl⟩
  obtain ⟨Pc, hc⟩ : ∃ Pc, Pc = Pb ++ [hop] := ⟨_, rfl⟩
  obtain ⟨P1, h1⟩ : ∃ P1, P1 = Pc ++ [(ms.length : Int)] := ⟨_, rfl⟩
  have HP := hid (And.intro ha (And.intro hb (And.intro hc h1)))
  have hA1 : P1 ++ (ms ++ [(es.length : Int)] ++ es.flatMap entNs) = NS := by rw [HE.out, h1, hc, hb, ha]; simp [ringNs]
  have HA := hid hA1
  clear ha hb hc h1 hA1 hP0
  go_wp2_with fail
  refine wp_region_held_drew (S := fun w' => w'.cell? ⟨rb, 0, none⟩ = some (.int .i64 count) ∧ w'.cell? ⟨rb, 1, none⟩ = some (.int .i64 founder) ∧ w'.cell? ⟨rb, 2, none⟩ = some (.int .i64 hop)) (by kernel_rfl) ?_ (fun hHeld => ?_)
  · (try dsimp only); (first | exact HRB.out _ (by assumption) | exact HRB.out _ (below_drewN (by assumption) 1))
  refine held_take 0 ?_ rfl (by kernel_rfl) (by kernel_rfl) (by kernel_rfl) (fun _ _ _ h => h) (by rfl) ?_ hHeld ?_
  rotate_left
  · (intro w hSw; (try dsimp only at hSw); go_simp; try with_reducible rfl)
  try simp only [Act.put, List.setIfInBounds_toArray, List.set_cons_zero, List.set_cons_succ]
  refine held_take 1 ?_ rfl (by kernel_rfl) (by kernel_rfl) (by kernel_rfl) (fun _ _ _ h => h) (by rfl) ?_ hHeld ?_
  rotate_left
  · (intro w hSw; (try dsimp only at hSw); go_simp; try with_reducible rfl)
  try simp only [Act.put, List.setIfInBounds_toArray, List.set_cons_zero, List.set_cons_succ]
  refine held_take 2 ?_ rfl (by kernel_rfl) (by kernel_rfl) (by kernel_rfl) (fun _ _ _ h => h) (by rfl) ?_ hHeld ?_
  rotate_left
  · (intro w hSw; (try dsimp only at hSw); go_simp; try with_reducible rfl)
  try simp only [Act.put, List.setIfInBounds_toArray, List.set_cons_zero, List.set_cons_succ]
  refine held_take 3 ?_ rfl (by kernel_rfl) (by kernel_rfl) (by kernel_rfl) (fun _ _ _ h => h) (by rfl) ?_ hHeld ?_
  rotate_left
  · (intro w hSw; (try dsimp only at hSw); go_simp; try with_reducible rfl)
  try simp only [Act.put, List.setIfInBounds_toArray, List.set_cons_zero, List.set_cons_succ]
  refine held_take 5 ?_ rfl (by kernel_rfl) (by kernel_rfl) (by kernel_rfl) (fun _ _ _ h => h) (by rfl) ?_ hHeld ?_
  rotate_left
  · (intro w hSw; (try dsimp only at hSw); go_simp; try with_reducible rfl)
  try simp only [Act.put, List.setIfInBounds_toArray, List.set_cons_zero, List.set_cons_succ]
  refine held_take 6 ?_ rfl (by kernel_rfl) (by kernel_rfl) (by kernel_rfl) (fun _ _ _ h => h) (by rfl) ?_ hHeld ?_
  rotate_left
  · (intro w hSw; (try dsimp only at hSw); go_simp; try with_reducible rfl)
  try simp only [Act.put, List.setIfInBounds_toArray, List.set_cons_zero, List.set_cons_succ]
  refine held_take 7 ?_ rfl (by kernel_rfl) (by kernel_rfl) (by kernel_rfl) (fun _ _ _ h => h) (by rfl) ?_ hHeld ?_
  rotate_left
  · (intro w hSw; (try dsimp only at hSw); go_simp; try with_reducible rfl)
  try simp only [Act.put, List.setIfInBounds_toArray, List.set_cons_zero, List.set_cons_succ]
  refine held_take 9 ?_ rfl (by kernel_rfl) (by kernel_rfl) (by kernel_rfl) (fun _ _ _ h => h) (by rfl) ?_ hHeld ?_
  rotate_left
  · (intro w hSw; (try dsimp only at hSw); go_simp; try with_reducible rfl)
  try simp only [Act.put, List.setIfInBounds_toArray, List.set_cons_zero, List.set_cons_succ]
  refine held_take 10 ?_ rfl (by kernel_rfl) (by kernel_rfl) (by kernel_rfl) (fun _ _ _ h => h) (by rfl) ?_ hHeld ?_
  rotate_left
  · (intro w hSw; (try dsimp only at hSw); go_simp; try with_reducible rfl)
  try simp only [Act.put, List.setIfInBounds_toArray, List.set_cons_zero, List.set_cons_succ]
  refine held_one 4 rfl (by kernel_rfl) (by rfl) (fun K hK => ?_)
  go_simp
  refine (refPutX_any (All := NS) (P' := Pa) ([founder, hop, (ms.length : Int)] ++ (ms ++ [(es.length : Int)] ++ es.flatMap entNs)) A4 c4 _ (by first | exact s6 | exact s6.drew) HP.out.1 (by rw [← HA.out, HP.out.2.2.2, HP.out.2.2.1, HP.out.2.1]; simp) HN.out.1 HN.out.2).mono ?_
  rintro e w7 ⟨A7, c7, rfl, s7, hb7⟩
  have b7 : Below w6.heap.size w6 w7 := (b6.drew).trans (hb7.mono b6.size)
  refine hK.out _ _ ?_ (fun hHeld2 => ?_)
  · (try dsimp only); (first | exact HRB.out _ (by assumption) | exact HRB.out _ (below_drewN (by assumption) 1))
  clear hK K hHeld
  have hHeld := hHeld2
  clear hHeld2
  try simp only [Act.put, List.setIfInBounds_toArray, List.set_cons_zero, List.set_cons_succ]
  refine held_one 8 rfl (by kernel_rfl) (by rfl) (fun K hK => ?_)
  go_simp
  refine (refPutX_any (All := NS) (P' := Pb) ([hop, (ms.length : Int)] ++ (ms ++ [(es.length : Int)] ++ es.flatMap entNs)) A7 c7 _ s7 HP.out.2.1 (by rw [← HA.out, HP.out.2.2.2, HP.out.2.2.1]; simp) HN.out.1 HN.out.2).mono ?_
  rintro e w8 ⟨A8, c8, rfl, s8, hb8⟩
  have b8 := b7.trans (hb8.mono b7.size)
  refine hK.out _ _ ?_ (fun hHeld2 => ?_)
  · (try dsimp only); (first | exact HRB.out _ (by assumption) | exact HRB.out _ (below_drewN (by assumption) 1))
  clear hK K hHeld
  have hHeld := hHeld2
  clear hHeld2
  try simp only [Act.put, List.setIfInBounds_toArray, List.set_cons_zero, List.set_cons_succ]
  refine held_one 11 rfl (by kernel_rfl) (by rfl) (fun K hK => ?_)
  go_simp
  refine (refPutX_any (All := NS) (P' := Pc) ([(ms.length : Int)] ++ (ms ++ [(es.length : Int)] ++ es.flatMap entNs)) A8 c8 _ s8 HP.out.2.2.1 (by rw [← HA.out, HP.out.2.2.2]; simp) HN.out.1 HN.out.2).mono ?_
  rintro e w9 ⟨A9, c9, rfl, s9, hb9⟩
  have b9 := b8.trans (hb9.mono b8.size)
  refine hK.out _ _ ?_ (fun hHeld2 => ?_)
  · (try dsimp only); (first | exact HRB.out _ (by assumption) | exact HRB.out _ (below_drewN (by assumption) 1))
  clear hK K hHeld
  have hHeld := hHeld2
  clear hHeld2
  try simp only [Act.put, List.setIfInBounds_toArray, List.set_cons_zero, List.set_cons_succ]
  refine held_take 12 ?_ rfl (by kernel_rfl) (by kernel_rfl) (by kernel_rfl) (fun _ _ _ h => h) (by rfl) ?_ hHeld ?_
  rotate_left
  · (intro w hSw; (try dsimp only at hSw); go_simp; try with_reducible rfl)
  try simp only [Act.put, List.setIfInBounds_toArray, List.set_cons_zero, List.set_cons_succ]
  refine wpAnyH_done (by kernel_rfl) ?_ _
  clear hHeld
  have r3 := (HRC.out _ b9).1
  have hp := refPutX_any (All := NS) (P' := P1) (ms ++ [(es.length : Int)] ++ es.flatMap entNs) A9 c9 _ s9 HP.out.2.2.2 HA.out HN.out.1 HN.out.2
  clear s6 b6 s7 hb7 b7 s8 hb8 b8 hb9 HRB
  go_wp2_with fail
  refine hp.mono ?_
  rintro e w10 ⟨A10, c10, rfl, s10, hb10⟩
  have b10 := b9.trans (hb10.mono b9.size)
  have r3 := (HRC.out _ b10).1
  clear hp s9 b9 hb10
  go_wp2_with fail
  clear r3
  go_loopw [3, 5] (fun v i wr => PutRelG w6 (fun k => P1 ++ ms.take k) ms.length v i wr) (fun _ i _ => ms.length - (intOf i).toNat)
  case atStart => unfold PutRelG; exact ⟨0, A10, c10, Nat.zero_le _, rfl, by simp, by simpa using s10, b10⟩
  case round =>
  unfold PutRelG at hrel
  obtain ⟨k, A1, c1, hk, rfl, rfl, hs1, hb9⟩ := hrel
  have r3 := (HRC.out _ hb9).1
  by_cases hlt : k < ms.length
  case pos =>
    obtain ⟨b0, o0, hb0, hbw, hcx⟩ := HB6.out.2.1.mem.at (by rw [List.length_map]; omega)
    obtain rfl : MA = _ := hb0
    obtain ⟨x, hx⟩ : ∃ x, ms[k]? = some x := ⟨ms[k], List.getElem?_eq_getElem hlt⟩
    have d0 : wr.cell? ⟨b0, o0 + k, none⟩ = some (.int .i64 x) := (hb9.cell (p := ⟨b0, o0 + k, none⟩) hbw).trans ((hcx k (by rw [List.length_map]; omega)).trans (by rw [List.getElem?_map, hx]; rfl))
    have hq : P1 ++ ms.take (k + 1) ++ (ms.drop (k + 1) ++ [(es.length : Int)] ++ es.flatMap entNs) = NS := by
      rw [← HA.out, List.append_assoc P1, ← List.append_assoc (ms.take (k + 1)), ← List.append_assoc (ms.take (k + 1)), List.take_append_drop]
    have hnx : P1 ++ ms.take (k + 1) = P1 ++ ms.take k ++ [x] := by rw [List.take_add_one, hx]; simp
    dsimp only at hs1 ⊢
    have hp := refPutX_any (All := NS) _ A1 c1 _ hs1 hnx hq HN.out.1 HN.out.2
    have hlt' : (k : Int) < ms.length := by omega
    have hbk := hid hb9
    clear hq hnx hs1 hcx hb9 hx
    generalize P1 ++ ms.take k = X at *
    obtain ⟨Y, hY⟩ : ∃ Y, P1 ++ ms.take (k + 1) = Y := ⟨_, rfl⟩
    rw [hY] at hp
    have HY := hid hY
    clear hY
    go_wp2_with fail
    refine hp.mono ?_
    rintro e w9 ⟨A9, c9, rfl, hs9, hb10⟩
    have HF := hid (And.intro hs9 (hbk.out.trans (hb10.mono hbk.out.size)))
    clear hs9 hb10 hp
    go_wp2_with fail
    go_roundw
    case rel =>
      unfold PutRelG
      refine ⟨k + 1, A9, c9, by omega, by go_num, ?_, ?_, HF.out.2⟩
      · show _ = Value.slice A9 (cat (P1 ++ ms.take (k + 1))).length c9
        rw [HY.out]
      · show Sl _ _ ((cat (P1 ++ ms.take (k + 1))).map _)
        rw [HY.out]
        exact HF.out.1
    case measure => simp [intOf]; omega
  case neg =>
  obtain rfl : ms.length = k := by omega
  dsimp only at hs1 ⊢
  rw [List.take_length] at hs1 ⊢
  obtain ⟨P3, hP3⟩ : ∃ P3, P3 = P1 ++ ms ++ [(es.length : Int)] := ⟨_, rfl⟩
  have hA3 : P3 ++ es.flatMap entNs = NS := by rw [hP3, ← HA.out]; simp
  have r4 := (HRC.out _ hb9).2
  have hp := refPutX_any (All := NS) _ A1 c1 _ hs1 hP3 hA3 HN.out.1 HN.out.2
  have HQ := hid hA3
  have hbk := hid hb9
  have hki : ¬ ((ms.length : Nat) : Int) < ms.length := by omega
  clear hA3 hP3 hs1 hb9 s10 b10
  generalize P1 ++ ms = X at *
  go_wp2_with fail
  refine hp.mono ?_
  rintro e w11 ⟨A11, c11, rfl, hs11, hb11⟩
  have b11 := hbk.out.trans (hb11.mono hbk.out.size)
  have r4 := (HRC.out _ b11).2
  clear hp hb11 r3 hki hbk
  go_wp2_with fail
  clear r4
  go_loopw [3, 6] (fun v i wr => PutRelG w6 (fun k => P3 ++ (es.take k).flatMap entNs) es.length v i wr) (fun _ i _ => es.length - (intOf i).toNat)
  case atStart => unfold PutRelG; exact ⟨0, A11, c11, Nat.zero_le _, rfl, by simp, by simpa using hs11, b11⟩
  case round =>
  clear hs11 b11
  unfold PutRelG at hrel
  obtain ⟨k, A1, c1, hk, rfl, rfl, hs1, hb9⟩ := hrel
  have r4 := (HRC.out _ hb9).2
  by_cases hlt : k < es.length
  case neg =>
    obtain rfl : es.length = k := by omega
    dsimp only at hs1 ⊢
    rw [List.take_length, HQ.out] at hs1 ⊢
    have HF := hid (And.intro hs1 (HB6.out.1.trans (hb9.mono HB6.out.1.size)))
    clear hs1 hb9
    go_wp2_with fail
    go_ret
    exact ⟨A1, c1, rfl, HF.out.1, HF.out.2⟩
  case pos =>
  obtain ⟨b0, o0, hb0, hbw, hcx⟩ := HB6.out.2.1.ent.at (by rw [flat_length EntL.len]; omega)
  obtain rfl : EA = _ := hb0
  obtain ⟨e, he⟩ : ∃ e, es[k]? = some e := ⟨es[k], List.getElem?_eq_getElem hlt⟩
  obtain ⟨fl, di, ge, aw, bs, bA, bc⟩ := e
  have hem := List.mem_of_getElem? he
  have d0 : wr.cell? ⟨b0, o0 + k * 5, none⟩ = some (.int .i64 fl) := (hb9.cell (p := ⟨b0, o0 + k * 5, none⟩) hbw).trans (ent_cell hcx he (j := 0) (by omega))
  have d1 : wr.cell? ⟨b0, o0 + k * 5 + 1, none⟩ = some (.int .i64 di) := (hb9.cell (p := ⟨b0, o0 + k * 5 + 1, none⟩) hbw).trans (ent_cell hcx he (j := 1) (by omega))
  have d2 : wr.cell? ⟨b0, o0 + k * 5 + 2, none⟩ = some (.int .i64 ge) := (hb9.cell (p := ⟨b0, o0 + k * 5 + 2, none⟩) hbw).trans (ent_cell hcx he (j := 2) (by omega))
  have d3 : wr.cell? ⟨b0, o0 + k * 5 + 3, none⟩ = some (.slice bA bs.length bc) := (hb9.cell (p := ⟨b0, o0 + k * 5 + 3, none⟩) hbw).trans (ent_cell hcx he (j := 3) (by omega))
  have d4 : wr.cell? ⟨b0, o0 + k * 5 + 4, none⟩ = some (.int .i64 aw) := (hb9.cell (p := ⟨b0, o0 + k * 5 + 4, none⟩) hbw).trans (ent_cell hcx he (j := 4) (by omega))
  have hbE := (Below.refl wr.heap.size wr).alloc (Nat.le_refl _) (.cells #[.int .i64 fl, .int .i64 di, .int .i64 ge, .slice bA bs.length bc, .int .i64 aw] 62)
  have hxE : Blk (wr.alloc (.cells #[.int .i64 fl, .int .i64 di, .int .i64 ge, .slice bA bs.length bc, .int .i64 aw] 62)) wr.heap.size [.int .i64 fl, .int .i64 di, .int .i64 ge, .slice bA bs.length bc, .int .i64 aw] 62 := Blk.new wr _ _
  have hsE := It2 hs1 hbE
  have hki : (k : Int) < es.length := by omega
  have hb13 := hb9.trans (hbE.mono hb9.size)
  obtain ⟨eb, heb⟩ : ∃ eb, eb = wr.heap.size := ⟨_, rfl⟩
  dsimp only at hsE ⊢
  go_upto_region 16 with (fail)
  rw [← heb] at hxE ⊢
  have HR0 := hid (And.intro he (And.intro hem hb13))
  clear heb he hem hcx hbE hs1 hb9 d0 d1 d2 d3 d4 r4 r3 hb13
  generalize wr.alloc (.cells #[.int .i64 fl, .int .i64 di, .int .i64 ge, .slice bA bs.length bc, .int .i64 aw] 62) = w13 at *
  have hes : es.flatMap entNs = (es.take k).flatMap entNs ++ (entNs ⟨fl, di, ge, aw, bs, bA, bc⟩ ++ (es.drop (k + 1)).flatMap entNs) := (congrArg (fun l => l.flatMap entNs) (take_split es k _ HR0.out.1)).trans (by rw [List.flatMap_append, List.flatMap_cons])
  have hq5 : P3 ++ (es.take k).flatMap entNs ++ [fl, di, ge, aw, (bs.length : Int)] ++ (pairs bs ++ (es.drop (k + 1)).flatMap entNs) = NS := by
    rw [← HQ.out, hes]
    simp [entNs, pairs]
  have hnx : P3 ++ (es.take (k + 1)).flatMap entNs = P3 ++ (es.take k).flatMap entNs ++ [fl, di, ge, aw, (bs.length : Int)] ++ pairs bs := by
    rw [ents_succ HR0.out.1]
    simp
  obtain ⟨Y, hY⟩ : ∃ Y, P3 ++ (es.take (k + 1)).flatMap entNs = Y := ⟨_, rfl⟩
  have HY := hid hY
  rw [hY] at hnx
  generalize P3 ++ (es.take k).flatMap entNs = X at *
  obtain ⟨Pa, ha⟩ : ∃ Pa, Pa = X ++ [fl] := ⟨_, rfl⟩
  obtain ⟨Pb, hb⟩ : ∃ Pb, Pb = Pa ++ [di] := ⟨_, rfl⟩
  obtain ⟨Pc, hc⟩ : ∃ Pc, Pc = Pb ++ [ge] := ⟨_, rfl⟩
  obtain ⟨Pd, hd⟩ : ∃ Pd, Pd = Pc ++ [aw] := ⟨_, rfl⟩
  obtain ⟨P5, h5⟩ : ∃ P5, P5 = Pd ++ [(bs.length : Int)] := ⟨_, rfl⟩
  have hX5 : X ++ [fl, di, ge, aw, (bs.length : Int)] = P5 := by rw [h5, hd, hc, hb, ha]; simp
  rw [hX5] at hq5 hnx
  have HV := hid (And.intro ha (And.intro hb (And.intro hc (And.intro hd h5))))
  have HM := hid (And.intro hnx hq5)
  have HEB : Hid (∀ w', Below w13.heap.size w13 w' → w'.cell? ⟨eb, 0, none⟩ = some (.int .i64 fl) ∧ w'.cell? ⟨eb, 1, none⟩ = some (.int .i64 di) ∧ w'.cell? ⟨eb, 2, none⟩ = some (.int .i64 ge) ∧ w'.cell? ⟨eb, 3, none⟩ = some (.slice bA bs.length bc) ∧ w'.cell? ⟨eb, 4, none⟩ = some (.int .i64 aw)) := fun w' hb => by
    have x2 := (Eff.of_below (S := fun _ => False) hb).blk hxE (fun h => h)
    exact ⟨x2.cell 0, x2.cell 1, x2.cell 2, x2.cell 3, x2.cell 4⟩
  have e0 : Below w13.heap.size w13 w13 := Below.refl _ _
  clear hY hes hnx hq5 hX5 ha hb hc hd h5 hxE
  go_wp2_with fail
  refine wp_region_held_drew (S := fun w' => w'.cell? ⟨eb, 0, none⟩ = some (.int .i64 fl) ∧ w'.cell? ⟨eb, 1, none⟩ = some (.int .i64 di) ∧ w'.cell? ⟨eb, 2, none⟩ = some (.int .i64 ge) ∧ w'.cell? ⟨eb, 3, none⟩ = some (.slice bA bs.length bc) ∧ w'.cell? ⟨eb, 4, none⟩ = some (.int .i64 aw)) (by kernel_rfl) ?_ (fun hHeld => ?_)
  · (try dsimp only); (first | exact HEB.out _ (by assumption) | exact HEB.out _ (below_drewN (by assumption) 1))
  refine held_take 0 ?_ rfl (by kernel_rfl) (by kernel_rfl) (by kernel_rfl) (fun _ _ _ h => h) (by rfl) ?_ hHeld ?_
  rotate_left
  · (intro w hSw; (try dsimp only at hSw); go_simp; try with_reducible rfl)
  try simp only [Act.put, List.setIfInBounds_toArray, List.set_cons_zero, List.set_cons_succ]
  refine held_take 1 ?_ rfl (by kernel_rfl) (by kernel_rfl) (by kernel_rfl) (fun _ _ _ h => h) (by rfl) ?_ hHeld ?_
  rotate_left
  · (intro w hSw; (try dsimp only at hSw); go_simp; try with_reducible rfl)
  try simp only [Act.put, List.setIfInBounds_toArray, List.set_cons_zero, List.set_cons_succ]
  refine held_take 2 ?_ rfl (by kernel_rfl) (by kernel_rfl) (by kernel_rfl) (fun _ _ _ h => h) (by rfl) ?_ hHeld ?_
  rotate_left
  · (intro w hSw; (try dsimp only at hSw); go_simp; try with_reducible rfl)
  try simp only [Act.put, List.setIfInBounds_toArray, List.set_cons_zero, List.set_cons_succ]
  refine held_take 3 ?_ rfl (by kernel_rfl) (by kernel_rfl) (by kernel_rfl) (fun _ _ _ h => h) (by rfl) ?_ hHeld ?_
  rotate_left
  · (intro w hSw; (try dsimp only at hSw); go_simp; try with_reducible rfl)
  try simp only [Act.put, List.setIfInBounds_toArray, List.set_cons_zero, List.set_cons_succ]
  refine held_take 4 ?_ rfl (by kernel_rfl) (by kernel_rfl) (by kernel_rfl) (fun _ _ _ h => h) (by rfl) ?_ hHeld ?_
  rotate_left
  · (intro w hSw; (try dsimp only at hSw); go_simp; try with_reducible rfl)
  try simp only [Act.put, List.setIfInBounds_toArray, List.set_cons_zero, List.set_cons_succ]
  refine held_take 6 ?_ rfl (by kernel_rfl) (by kernel_rfl) (by kernel_rfl) (fun _ _ _ h => h) (by rfl) ?_ hHeld ?_
  rotate_left
  · (intro w hSw; (try dsimp only at hSw); go_simp; try with_reducible rfl)
  try simp only [Act.put, List.setIfInBounds_toArray, List.set_cons_zero, List.set_cons_succ]
  refine held_take 7 ?_ rfl (by kernel_rfl) (by kernel_rfl) (by kernel_rfl) (fun _ _ _ h => h) (by rfl) ?_ hHeld ?_
  rotate_left
  · (intro w hSw; (try dsimp only at hSw); go_simp; try with_reducible rfl)
  try simp only [Act.put, List.setIfInBounds_toArray, List.set_cons_zero, List.set_cons_succ]
  refine held_take 8 ?_ rfl (by kernel_rfl) (by kernel_rfl) (by kernel_rfl) (fun _ _ _ h => h) (by rfl) ?_ hHeld ?_
  rotate_left
  · (intro w hSw; (try dsimp only at hSw); go_simp; try with_reducible rfl)
  try simp only [Act.put, List.setIfInBounds_toArray, List.set_cons_zero, List.set_cons_succ]
  refine held_take 9 ?_ rfl (by kernel_rfl) (by kernel_rfl) (by kernel_rfl) (fun _ _ _ h => h) (by rfl) ?_ hHeld ?_
  rotate_left
  · (intro w hSw; (try dsimp only at hSw); go_simp; try with_reducible rfl)
  try simp only [Act.put, List.setIfInBounds_toArray, List.set_cons_zero, List.set_cons_succ]
  refine held_take 11 ?_ rfl (by kernel_rfl) (by kernel_rfl) (by kernel_rfl) (fun _ _ _ h => h) (by rfl) ?_ hHeld ?_
  rotate_left
  · (intro w hSw; (try dsimp only at hSw); go_simp; try with_reducible rfl)
  try simp only [Act.put, List.setIfInBounds_toArray, List.set_cons_zero, List.set_cons_succ]
  refine held_take 12 ?_ rfl (by kernel_rfl) (by kernel_rfl) (by kernel_rfl) (fun _ _ _ h => h) (by rfl) ?_ hHeld ?_
  rotate_left
  · (intro w hSw; (try dsimp only at hSw); go_simp; try with_reducible rfl)
  try simp only [Act.put, List.setIfInBounds_toArray, List.set_cons_zero, List.set_cons_succ]
  refine held_take 13 ?_ rfl (by kernel_rfl) (by kernel_rfl) (by kernel_rfl) (fun _ _ _ h => h) (by rfl) ?_ hHeld ?_
  rotate_left
  · (intro w hSw; (try dsimp only at hSw); go_simp; try with_reducible rfl)
  try simp only [Act.put, List.setIfInBounds_toArray, List.set_cons_zero, List.set_cons_succ]
  refine held_take 15 ?_ rfl (by kernel_rfl) (by kernel_rfl) (by kernel_rfl) (fun _ _ _ h => h) (by rfl) ?_ hHeld ?_
  rotate_left
  · (intro w hSw; (try dsimp only at hSw); go_simp; try with_reducible rfl)
  try simp only [Act.put, List.setIfInBounds_toArray, List.set_cons_zero, List.set_cons_succ]
  refine held_take 16 ?_ rfl (by kernel_rfl) (by kernel_rfl) (by kernel_rfl) (fun _ _ _ h => h) (by rfl) ?_ hHeld ?_
  rotate_left
  · (intro w hSw; (try dsimp only at hSw); go_simp; try with_reducible rfl)
  try simp only [Act.put, List.setIfInBounds_toArray, List.set_cons_zero, List.set_cons_succ]
  refine held_one 5 rfl (by kernel_rfl) (by rfl) (fun K hK => ?_)
  go_simp
  refine (refPutX_any (All := NS) (P' := Pa) ([di, ge, aw, (bs.length : Int)] ++ (pairs bs ++ (es.drop (k + 1)).flatMap entNs)) A1 c1 _ (by first | exact hsE | exact hsE.drew) HV.out.1 (by rw [← HM.out.2, HV.out.2.2.2.2, HV.out.2.2.2.1, HV.out.2.2.1, HV.out.2.1]; simp) HN.out.1 HN.out.2).mono ?_
  rintro e w14 ⟨A14, c14, rfl, s14, hb14⟩
  have e14 : Below w13.heap.size w13 w14 := (e0.drew).trans (hb14.mono e0.size)
  refine hK.out _ _ ?_ (fun hHeld2 => ?_)
  · (try dsimp only); (first | exact HEB.out _ (by assumption) | exact HEB.out _ (below_drewN (by assumption) 1))
  clear hK K hHeld
  have hHeld := hHeld2
  clear hHeld2
  try simp only [Act.put, List.setIfInBounds_toArray, List.set_cons_zero, List.set_cons_succ]
  refine held_one 10 rfl (by kernel_rfl) (by rfl) (fun K hK => ?_)
  go_simp
  refine (refPutX_any (All := NS) (P' := Pb) ([ge, aw, (bs.length : Int)] ++ (pairs bs ++ (es.drop (k + 1)).flatMap entNs)) A14 c14 _ s14 HV.out.2.1 (by rw [← HM.out.2, HV.out.2.2.2.2, HV.out.2.2.2.1, HV.out.2.2.1]; simp) HN.out.1 HN.out.2).mono ?_
  rintro e w15 ⟨A15, c15, rfl, s15, hb15⟩
  have e15 := e14.trans (hb15.mono e14.size)
  refine hK.out _ _ ?_ (fun hHeld2 => ?_)
  · (try dsimp only); (first | exact HEB.out _ (by assumption) | exact HEB.out _ (below_drewN (by assumption) 1))
  clear hK K hHeld
  have hHeld := hHeld2
  clear hHeld2
  try simp only [Act.put, List.setIfInBounds_toArray, List.set_cons_zero, List.set_cons_succ]
  refine held_one 14 rfl (by kernel_rfl) (by rfl) (fun K hK => ?_)
  go_simp
  refine (refPutX_any (All := NS) (P' := Pc) ([aw, (bs.length : Int)] ++ (pairs bs ++ (es.drop (k + 1)).flatMap entNs)) A15 c15 _ s15 HV.out.2.2.1 (by rw [← HM.out.2, HV.out.2.2.2.2, HV.out.2.2.2.1]; simp) HN.out.1 HN.out.2).mono ?_
  rintro e w16 ⟨A16, c16, rfl, s16, hb16⟩
  have e16 := e15.trans (hb16.mono e15.size)
  refine hK.out _ _ ?_ (fun hHeld2 => ?_)
  · (try dsimp only); (first | exact HEB.out _ (by assumption) | exact HEB.out _ (below_drewN (by assumption) 1))
  clear hK K hHeld
  have hHeld := hHeld2
  clear hHeld2
  try simp only [Act.put, List.setIfInBounds_toArray, List.set_cons_zero, List.set_cons_succ]
  refine held_one 17 rfl (by kernel_rfl) (by rfl) (fun K hK => ?_)
  go_simp
  refine (refPutX_any (All := NS) (P' := Pd) ([(bs.length : Int)] ++ (pairs bs ++ (es.drop (k + 1)).flatMap entNs)) A16 c16 _ s16 HV.out.2.2.2.1 (by rw [← HM.out.2, HV.out.2.2.2.2]; simp) HN.out.1 HN.out.2).mono ?_
  rintro e w17 ⟨A17, c17, rfl, s17, hb17⟩
  have e17 := e16.trans (hb17.mono e16.size)
  refine hK.out _ _ ?_ (fun hHeld2 => ?_)
  · (try dsimp only); (first | exact HEB.out _ (by assumption) | exact HEB.out _ (below_drewN (by assumption) 1))
  clear hK K hHeld
  have hHeld := hHeld2
  clear hHeld2
  try simp only [Act.put, List.setIfInBounds_toArray, List.set_cons_zero, List.set_cons_succ]
  refine held_take 18 ?_ rfl (by kernel_rfl) (by kernel_rfl) (by kernel_rfl) (fun _ _ _ h => h) (by rfl) ?_ hHeld ?_
  rotate_left
  · (intro w hSw; (try dsimp only at hSw); go_simp; try with_reducible rfl)
  try simp only [Act.put, List.setIfInBounds_toArray, List.set_cons_zero, List.set_cons_succ]
  refine wpAnyH_done (by kernel_rfl) ?_ _
  clear hHeld
  have g3 := (HEB.out _ e17).2.2.2.1
  have hp := refPutX_any (All := NS) (P' := P5) (pairs bs ++ (es.drop (k + 1)).flatMap entNs) A17 c17 _ s17 HV.out.2.2.2.2 HM.out.2 HN.out.1 HN.out.2
  clear hsE e0 s14 hb14 e14 s15 hb15 e15 s16 hb16 e16 hb17
  go_wp2_with fail
  refine hp.mono ?_
  rintro e w18 ⟨A18, c18, rfl, s18, hb18⟩
  have e18 := e17.trans (hb18.mono e17.size)
  have g3 := (HEB.out _ e18).2.2.2.1
  have hbl : bs.length ≤ 9223372036854775807 := HB6.out.2.1.lens.2.2 _ HR0.out.2.1
  clear hp s17 e17 hb18
  go_wp2_with fail
  clear g3
  go_loopw [3, 8] (fun v i wr => PutRelG w13 (fun j => P5 ++ pairs (bs.take j)) bs.length v i wr) (fun _ i _ => bs.length - (intOf i).toNat)
  case atStart => unfold PutRelG; exact ⟨0, A18, c18, Nat.zero_le _, rfl, by simp [pairs], by simpa [pairs] using s18, e18⟩
  case round =>
  clear s18 e18
  unfold PutRelG at hrel
  obtain ⟨j, A2, c2, hj, rfl, rfl, hs2, hbj⟩ := hrel
  have g3 := (HEB.out _ hbj).2.2.2.1
  by_cases hjl : j < bs.length
  case neg =>
    obtain rfl : bs.length = j := by omega
    dsimp only at hs2 ⊢
    rw [List.take_length, ← HM.out.1] at hs2 ⊢
    have HF := hid (And.intro hs2 (HR0.out.2.2.trans (hbj.mono HR0.out.2.2.size)))
    clear hs2 hbj
    go_wp2_with fail
    go_roundw
    case rel =>
      unfold PutRelG
      refine ⟨k + 1, A2, c2, by omega, by go_num, ?_, ?_, HF.out.2⟩
      · show _ = Value.slice A2 (cat (P3 ++ (es.take (k + 1)).flatMap entNs)).length c2
        rw [HY.out]
      · show Sl _ _ ((cat (P3 ++ (es.take (k + 1)).flatMap entNs)).map _)
        rw [HY.out]
        exact HF.out.1
    case measure => simp [intOf]; omega
  case pos =>
  have hbidW : Sl w6 bA (bs.flatMap bidC) := HB6.out.2.1.bid _ HR0.out.2.1
  obtain ⟨b2, o2, hb2, hbw2, hcx2⟩ := hbidW.at (by rw [flat_length bidC_len]; omega)
  obtain rfl : bA = _ := hb2
  obtain ⟨b, hb⟩ : ∃ b, bs[j]? = some b := ⟨bs[j], List.getElem?_eq_getElem hjl⟩
  obtain ⟨x, y⟩ := b
  have HB18 : Hid (Below w6.heap.size w6 w13) := HR0.out.2.2
  have HBC : Hid (∀ w', Below w13.heap.size w13 w' → w'.cell? ⟨eb, 3, none⟩ = some (.slice (some ⟨b2, o2, none⟩) bs.length bc) ∧ w'.cell? ⟨b2, o2 + j * 2, none⟩ = some (.int .i64 x) ∧ w'.cell? ⟨b2, o2 + j * 2 + 1, none⟩ = some (.int .i64 y)) := fun w' hbb => ⟨(HEB.out _ hbb).2.2.2.1, ((HB18.out.trans (hbb.mono HB18.out.size)).cell (p := ⟨b2, o2 + j * 2, none⟩) hbw2).trans (bid_cell hcx2 hb (j := 0) (by omega)), ((HB18.out.trans (hbb.mono HB18.out.size)).cell (p := ⟨b2, o2 + j * 2 + 1, none⟩) hbw2).trans (bid_cell hcx2 hb (j := 1) (by omega))⟩
  have hbs : bs = bs.take j ++ (x, y) :: bs.drop (j + 1) := take_split bs j (x, y) hb
  have hpr : pairs bs = pairs (bs.take j) ++ ([x, y] ++ pairs (bs.drop (j + 1))) := (congrArg pairs hbs).trans (by simp [pairs])
  have hq6 : P5 ++ pairs (bs.take j) ++ [x] ++ [y] ++ (pairs (bs.drop (j + 1)) ++ (es.drop (k + 1)).flatMap entNs) = NS := by
    rw [← HM.out.2, hpr]
    simp
  have hnj : P5 ++ pairs (bs.take (j + 1)) = P5 ++ pairs (bs.take j) ++ [x] ++ [y] := by rw [pairs_succ hb]; simp
  dsimp only at hs2 ⊢
  obtain ⟨Z, hZ⟩ : ∃ Z, P5 ++ pairs (bs.take (j + 1)) = Z := ⟨_, rfl⟩
  have HZ := hid hZ
  rw [hZ] at hnj
  rw [← hnj] at hq6
  generalize P5 ++ pairs (bs.take j) = Xj at *
  obtain ⟨Py, hPy⟩ : ∃ Py, Py = Xj ++ [x] := ⟨_, rfl⟩
  rw [← hPy] at hnj
  have HU := hid (And.intro hPy (And.intro hnj hq6))
  have hjl' : (j : Int) < bs.length := by omega
  clear hbs hpr hZ hnj hq6 hPy hcx2 hb g3
  have g3 := (HBC.out _ hbj).1
  go_wp2_with fail
  clear g3
  refine wp_region_held_drew (S := fun w' => w'.cell? ⟨eb, 3, none⟩ = some (.slice (some ⟨b2, o2, none⟩) bs.length bc) ∧ w'.cell? ⟨b2, o2 + j * 2, none⟩ = some (.int .i64 x) ∧ w'.cell? ⟨b2, o2 + j * 2 + 1, none⟩ = some (.int .i64 y)) (by kernel_rfl) ?_ (fun hHeld => ?_)
  · (try dsimp only); (first | exact HBC.out _ (by assumption) | exact HBC.out _ (below_drewN (by assumption) 1))
  refine held_take 0 ?_ rfl (by kernel_rfl) (by kernel_rfl) (by kernel_rfl) (fun _ _ _ h => h) (by rfl) ?_ hHeld ?_
  rotate_left
  · (intro w hSw; (try dsimp only at hSw); go_simp; try with_reducible rfl)
  try simp only [Act.put, List.setIfInBounds_toArray, List.set_cons_zero, List.set_cons_succ]
  refine held_take 1 ?_ rfl (by kernel_rfl) (by kernel_rfl) (by kernel_rfl) (fun _ _ _ h => h) (by rfl) ?_ hHeld ?_
  rotate_left
  · (intro w hSw; (try dsimp only at hSw); go_simp; try with_reducible rfl)
  try simp only [Act.put, List.setIfInBounds_toArray, List.set_cons_zero, List.set_cons_succ]
  refine held_take 2 ?_ rfl (by kernel_rfl) (by kernel_rfl) (by kernel_rfl) (fun _ _ _ h => h) (by rfl) ?_ hHeld ?_
  rotate_left
  · (intro w hSw; (try dsimp only at hSw); go_simp; try with_reducible rfl)
  try simp only [Act.put, List.setIfInBounds_toArray, List.set_cons_zero, List.set_cons_succ]
  refine held_take 3 ?_ rfl (by kernel_rfl) (by kernel_rfl) (by kernel_rfl) (fun _ _ _ h => h) (by rfl) ?_ hHeld ?_
  rotate_left
  · (intro w hSw; (try dsimp only at hSw); go_simp; try with_reducible rfl)
  try simp only [Act.put, List.setIfInBounds_toArray, List.set_cons_zero, List.set_cons_succ]
  refine held_take 4 ?_ rfl (by kernel_rfl) (by kernel_rfl) (by kernel_rfl) (fun _ _ _ h => h) (by rfl) ?_ hHeld ?_
  rotate_left
  · (intro w hSw; (try dsimp only at hSw); go_simp; try with_reducible rfl)
  try simp only [Act.put, List.setIfInBounds_toArray, List.set_cons_zero, List.set_cons_succ]
  refine held_take 5 ?_ rfl (by kernel_rfl) (by kernel_rfl) (by kernel_rfl) (fun _ _ _ h => h) (by rfl) ?_ hHeld ?_
  rotate_left
  · (intro w hSw; (try dsimp only at hSw); go_simp; try with_reducible rfl)
  try simp only [Act.put, List.setIfInBounds_toArray, List.set_cons_zero, List.set_cons_succ]
  refine held_take 6 ?_ rfl (by kernel_rfl) (by kernel_rfl) (by kernel_rfl) (fun _ _ _ h => h) (by rfl) ?_ hHeld ?_
  rotate_left
  · (intro w hSw; (try dsimp only at hSw); go_simp; try with_reducible rfl)
  try simp only [Act.put, List.setIfInBounds_toArray, List.set_cons_zero, List.set_cons_succ]
  refine held_take 8 ?_ rfl (by kernel_rfl) (by kernel_rfl) (by kernel_rfl) (fun _ _ _ h => h) (by rfl) ?_ hHeld ?_
  rotate_left
  · (intro w hSw; (try dsimp only at hSw); go_simp; try with_reducible rfl)
  try simp only [Act.put, List.setIfInBounds_toArray, List.set_cons_zero, List.set_cons_succ]
  refine held_take 9 ?_ rfl (by kernel_rfl) (by kernel_rfl) (by kernel_rfl) (fun _ _ _ h => h) (by rfl) ?_ hHeld ?_
  rotate_left
  · (intro w hSw; (try dsimp only at hSw); go_simp; try with_reducible rfl)
  try simp only [Act.put, List.setIfInBounds_toArray, List.set_cons_zero, List.set_cons_succ]
  refine held_take 10 ?_ rfl (by kernel_rfl) (by kernel_rfl) (by kernel_rfl) (fun _ _ _ h => h) (by rfl) ?_ hHeld ?_
  rotate_left
  · (intro w hSw; (try dsimp only at hSw); go_simp; try with_reducible rfl)
  try simp only [Act.put, List.setIfInBounds_toArray, List.set_cons_zero, List.set_cons_succ]
  refine held_take 11 ?_ rfl (by kernel_rfl) (by kernel_rfl) (by kernel_rfl) (fun _ _ _ h => h) (by rfl) ?_ hHeld ?_
  rotate_left
  · (intro w hSw; (try dsimp only at hSw); go_simp; try with_reducible rfl)
  try simp only [Act.put, List.setIfInBounds_toArray, List.set_cons_zero, List.set_cons_succ]
  refine held_take 12 ?_ rfl (by kernel_rfl) (by kernel_rfl) (by kernel_rfl) (fun _ _ _ h => h) (by rfl) ?_ hHeld ?_
  rotate_left
  · (intro w hSw; (try dsimp only at hSw); go_simp; try with_reducible rfl)
  try simp only [Act.put, List.setIfInBounds_toArray, List.set_cons_zero, List.set_cons_succ]
  refine held_take 13 ?_ rfl (by kernel_rfl) (by kernel_rfl) (by kernel_rfl) (fun _ _ _ h => h) (by rfl) ?_ hHeld ?_
  rotate_left
  · (intro w hSw; (try dsimp only at hSw); go_simp; try with_reducible rfl)
  try simp only [Act.put, List.setIfInBounds_toArray, List.set_cons_zero, List.set_cons_succ]
  refine held_one 7 rfl (by kernel_rfl) (by rfl) (fun K hK => ?_)
  go_simp
  refine (refPutX_any (All := NS) (P' := Py) ([y] ++ (pairs (bs.drop (j + 1)) ++ (es.drop (k + 1)).flatMap entNs)) A2 c2 _ (by first | exact hs2 | exact hs2.drew) HU.out.1 (by rw [← HU.out.2.2, HU.out.2.1]; simp) HN.out.1 HN.out.2).mono ?_
  rintro e w20 ⟨A20, c20, rfl, s20, hb20⟩
  have e20 : Below w13.heap.size w13 w20 := (hbj.drew).trans (hb20.mono hbj.size)
  refine hK.out _ _ ?_ (fun hHeld2 => ?_)
  · (try dsimp only); (first | exact HBC.out _ (by assumption) | exact HBC.out _ (below_drewN (by assumption) 1))
  clear hK K hHeld
  have hHeld := hHeld2
  clear hHeld2
  try simp only [Act.put, List.setIfInBounds_toArray, List.set_cons_zero, List.set_cons_succ]
  refine held_one 14 rfl (by kernel_rfl) (by rfl) (fun K hK => ?_)
  go_simp
  refine (refPutX_any (All := NS) (P' := Z) (pairs (bs.drop (j + 1)) ++ (es.drop (k + 1)).flatMap entNs) A20 c20 _ s20 HU.out.2.1 HU.out.2.2 HN.out.1 HN.out.2).mono ?_
  rintro e w21 ⟨A21, c21, rfl, s21, hb21⟩
  have e21 := e20.trans (hb21.mono e20.size)
  refine hK.out _ _ ?_ (fun hHeld2 => ?_)
  · (try dsimp only); (first | exact HBC.out _ (by assumption) | exact HBC.out _ (below_drewN (by assumption) 1))
  clear hK K hHeld
  have hHeld := hHeld2
  clear hHeld2
  try simp only [Act.put, List.setIfInBounds_toArray, List.set_cons_zero, List.set_cons_succ]
  refine held_take 15 ?_ rfl (by kernel_rfl) (by kernel_rfl) (by kernel_rfl) (fun _ _ _ h => h) (by rfl) ?_ hHeld ?_
  rotate_left
  · (intro w hSw; (try dsimp only at hSw); go_simp; try with_reducible rfl)
  try simp only [Act.put, List.setIfInBounds_toArray, List.set_cons_zero, List.set_cons_succ]
  refine wpAnyH_done (by kernel_rfl) ?_ _
  clear hHeld
  have HF := hid (And.intro s21 e21)
  clear hs2 hbj s20 hb20 e20 s21 hb21 e21
  go_wp2_with fail
  go_roundw
  case rel =>
    unfold PutRelG
    refine ⟨j + 1, A21, c21, by omega, by go_num, ?_, ?_, HF.out.2⟩
    · show _ = Value.slice A21 (cat (P5 ++ pairs (bs.take (j + 1)))).length c21
      rw [HZ.out]
    · show Sl _ _ ((cat (P5 ++ pairs (bs.take (j + 1)))).map _)
      rw [HZ.out]
      exact HF.out.1
  case measure => simp [intOf]; omega
theorem refBytesF_any (f : FrL) (w : World) (hv : f.E = 0) (hR : RingIs w f.MA f.ms f.EA f.es) : Calls Tryd.prog 41 #[f.val] w (fun e w' => ∃ A c, e = .returned (.slice A f.B.length c) ∧ Sl w' A (f.B.map (Value.int .u8)) ∧ Below w.heap.size w w') := by
  rcases (frameE_valid hv).2.2 with h | h
  · exact refBeatF_any f w hv h.1
  · exact refTokF_any f w hv h.1 hR

def faultC : Option (Int × Nat) → List Value
  | none => [.int .i64 0, .bool false, .int .i64 0]
  | some (c, p) => [.int .i64 c, .bool true, .int .i64 p]
/-- The reference's reader lies in block r, over these bytes. -/
structure Qdr (w : World) (r : Nat) (A : Option Addr) (c : Nat) (bs : List Int) (p : Nat) (o : Option (Int × Nat)) : Prop where
  blk : Blk w r ([.slice A bs.length c, .int .i64 p] ++ faultC o) 104
  sl : Sl w A (bs.map (Value.int .u8))
  off : ∀ a, A = some a → a.block < r
  isb : IsB bs
  le : p ≤ bs.length
  len : bs.length ≤ 9223372036854775807
  code : ∀ e, o = some e → e.1 ≠ 0
set_option maxHeartbeats 800000 in
theorem refOk_any {w : World} {r : Nat} {A : Option Addr} {c p : Nat} {bs : List Int} {o : Option (Int × Nat)} (h : Qdr w r A c bs p o) :
    Calls Tryd.prog 66 #[.pointer (some ⟨r, 0, none⟩)] w fun e w' => e = .returned (.bool (decide (o = none))) ∧ w = w' := by
  cases o with
  | none =>
    have c2 : w.cell? ⟨r, 2, none⟩ = some (.int .i64 0) := h.blk.cell 2
    clear h
    go_enter Tryd.func66, Tryd.ntmps66
    go_wp2_with fail
    go_ret
    exact ⟨rfl, rfl⟩
  | some e =>
    obtain ⟨k, q⟩ := e
    have c2 : w.cell? ⟨r, 2, none⟩ = some (.int .i64 k) := h.blk.cell 2
    have hk : (k == 0) = false := by rw [beq_eq_false_iff_ne]; exact h.code _ rfl
    clear h
    go_enter Tryd.func66, Tryd.ntmps66
    go_wp2_with fail
    go_ret
    exact ⟨by simp [hk], rfl⟩
set_option maxHeartbeats 800000 in
theorem refLeft_any {w : World} {r : Nat} {A : Option Addr} {c p : Nat} {bs : List Int} {o : Option (Int × Nat)} (h : Qdr w r A c bs p o) :
    Calls Tryd.prog 67 #[.pointer (some ⟨r, 0, none⟩)] w fun e w' => e = .returned (.int .i64 ((bs.length : Int) - p)) ∧ ∃ q, w' = w.drewN q := by
  have c0 : w.cell? ⟨r, 0, none⟩ = some (.slice A bs.length c) := h.blk.cell 0
  have c1 : w.cell? ⟨r, 1, none⟩ = some (.int .i64 p) := h.blk.cell 1
  have hl := h.len
  have hle := h.le
  clear h
  go_enter Tryd.func67, Tryd.ntmps67
  go_wp2_with fail
  go_region
  go_wp2_with fail
  go_ret
  exact ⟨rfl, 1, rfl⟩
theorem Qdr.on {w w' : World} {r : Nat} {A : Option Addr} {c p : Nat} {bs : List Int} {o : Option (Int × Nat)} (h : Qdr w r A c bs p o) (hb : Below w.heap.size w w') : Qdr w' r A c bs p o :=
  ⟨(Eff.of_below (S := fun _ => False) hb).blk h.blk (fun h => h), It2 h.sl hb, h.off, h.isb, h.le, h.len, h.code⟩
theorem Qdr.eff {S : Nat → Prop} {w w' : World} {r : Nat} {A : Option Addr} {c p : Nat} {bs : List Int} {o : Option (Int × Nat)} (h : Qdr w r A c bs p o) (he : Eff S w w') (hS : ∀ k, k ≤ r → ¬ S k) : Qdr w' r A c bs p o :=
  ⟨he.blk h.blk (hS r (Nat.le_refl _)), h.sl.eff he (fun a ha => hS _ (Nat.le_of_lt (h.off a ha))), h.off, h.isb, h.le, h.len, h.code⟩
theorem faultC_three (o : Option (Int × Nat)) : ∃ x y z : Value, faultC o = [x, y, z] := by
  cases o with
  | none => exact ⟨_, _, _, rfl⟩
  | some e => exact ⟨_, _, _, rfl⟩
theorem Qdr.fail {w : World} {r : Nat} {A : Option Addr} {c p : Nat} {bs : List Int} {o : Option (Int × Nat)} (h : Qdr w r A c bs p o) (k : Int) (q : Nat) (hk : k ≠ 0) (hq : q ≤ bs.length) :
    Qdr ((((w.setCell ⟨r, 2, none⟩ (.int .i64 k)).setCell ⟨r, 3, none⟩ (.bool true)).setCell ⟨r, 4, none⟩ (.int .i64 q)).setCell ⟨r, 1, none⟩ (.int .i64 q)) r A c bs q (some (k, q)) ∧
    Eff (· = r) w ((((w.setCell ⟨r, 2, none⟩ (.int .i64 k)).setCell ⟨r, 3, none⟩ (.bool true)).setCell ⟨r, 4, none⟩ (.int .i64 q)).setCell ⟨r, 1, none⟩ (.int .i64 q)) := by
  have he := ((((Eff.one r w).set 2 (.int .i64 k)).set 3 (.bool true)).set 4 (.int .i64 (q : Int))).set 1 (.int .i64 (q : Int))
  obtain ⟨x, y, z, hfc⟩ := faultC_three o
  have h2 := h.blk
  rw [hfc] at h2
  exact ⟨⟨(((h2.set 2 _).set 3 _).set 4 _).set 1 _, h.sl.eff he (fun a ha h3 => by have := h.off a ha; omega), h.off, h.isb, hq, h.len, fun e he => by cases he; exact hk⟩, he⟩
def GivesQ (w : World) (r : Nat) (A : Option Addr) (c : Nat) (bs : List Int) (v : Value) (p : Nat) (o : Option (Int × Nat)) (e : Ending) (w' : World) : Prop := e = .returned v ∧ Qdr w' r A c bs p o ∧ Eff (· = r) w w'
set_option maxRecDepth 100000 in
set_option maxHeartbeats 1600000 in
theorem refFail_any {w : World} {r : Nat} {A : Option Addr} {c p : Nat} {bs : List Int} {o : Option (Int × Nat)} (k : Int) (q : Nat) (hk : k ≠ 0) (hq : q ≤ bs.length) (h : Qdr w r A c bs p o) :
    Calls Tryd.prog 86 #[.pointer (some ⟨r, 0, none⟩), .int .i64 k, .int .i64 q] w (GivesQ w r A c bs (.tuple #[]) q (some (k, q))) := by
  have hp := placed_any k q hk w
  have HX := hid h
  clear h
  go_enter Tryd.func86, Tryd.ntmps86
  go_wp2_with fail
  refine hp.mono ?_
  rintro e w1 ⟨rfl, hb⟩
  have h1 := HX.out.on hb
  have hf : ∀ o, w1.frozen? ⟨r, o, none⟩ = false := h1.blk.frozen
  obtain ⟨x, y, z, hfc⟩ := faultC_three o
  have c1 : w1.cell? ⟨r, 1, none⟩ = some (.int .i64 p) := h1.blk.cell 1
  have c2 : w1.cell? ⟨r, 2, none⟩ = some x := (h1.blk.cell 2).trans (by rw [hfc]; rfl)
  have c3 : w1.cell? ⟨r, 3, none⟩ = some y := (h1.blk.cell 3).trans (by rw [hfc]; rfl)
  have c4 : w1.cell? ⟨r, 4, none⟩ = some z := (h1.blk.cell 4).trans (by rw [hfc]; rfl)
  have HD := hid (Qdr.fail h1 k q hk hq)
  have HB := hid hb
  clear hp h1 hb hfc
  unfold faultV
  go_wp2_with fail
  go_end0
  exact ⟨rfl, HD.out.1, (Eff.of_below HB.out).step HD.out.2 (fun _ _ h => h)⟩
theorem Qdr.move {w : World} {r : Nat} {A : Option Addr} {c p q : Nat} {bs : List Int} {o : Option (Int × Nat)} (h : Qdr w r A c bs p o) (hq : q ≤ bs.length) : Qdr (w.setCell ⟨r, 1, none⟩ (.int .i64 q)) r A c bs q o :=
  ⟨h.blk.set 1 _, h.sl.eff ((Eff.one r w).set 1 _) (fun a ha h2 => by have := h.off a ha; omega), h.off, h.isb, hq, h.len, h.code⟩
theorem i64_ones_xor {x : Int} (h : inI x) : bits .xor .i64 (if IntKind.i64.signed = true then -1 else 9223372036854775807) x = -x - 1 := by
  have e : bits .xor .i64 (if IntKind.i64.signed = true then -1 else 9223372036854775807) x = bits .xor .i64 x (-1) := by
    have e1 : (if IntKind.i64.signed = true then (-1 : Int) else 9223372036854775807) = -1 := rfl
    rw [e1]
    show IntKind.i64.wrap (((BitVec.ofInt 64 (-1) ^^^ BitVec.ofInt 64 x).toNat : Nat) : Int) = IntKind.i64.wrap (((BitVec.ofInt 64 x ^^^ BitVec.ofInt 64 (-1)).toNat : Nat) : Int)
    rw [BitVec.xor_comm]
  rw [e, i64_xor_ones h]
theorem byte_and {c : Nat} (h : c < 256) : bits .and .u8 (c : Int) 127 = ((c % 128 : Nat) : Int) := by
  rw [show (127 : Int) = ((127 : Nat) : Int) from rfl, u8_and_nat _ _ h (by omega), nat_mask7]
def QNum (w : World) (bs : List Int) (p : Nat) (z i : Value) (wr : World) : Prop :=
  ∃ (k y n : Nat), n = p + k ∧ i = .int .i64 n ∧ z = .int .u64 y ∧ k ≤ 9 ∧ y < 2 ^ (7 * k) ∧ rd (bs.drop p) 0 0 = rd (bs.drop n) k y ∧ wr = w
attribute [irreducible] QNum
set_option maxRecDepth 100000 in
set_option maxHeartbeats 8000000 in
theorem refNum_any {w : World} {r : Nat} {A : Option Addr} {c p : Nat} {bs : List Int} {o : Option (Int × Nat)} (low high : Int) (h : Qdr w r A c bs p o) :
    Calls Tryd.prog 63 #[.pointer (some ⟨r, 0, none⟩), .int .i64 low, .int .i64 high] w (GivesQ w r A c bs (.int .i64 (numR bs low high p o).1) (numR bs low high p o).2.1 (numR bs low high p o).2.2) := by
  have hk := refOk_any h
  cases o with
  | some e =>
    have HX : Hid (Qdr w r A c bs p (some e)) := h
    clear h
    go_enter Tryd.func63, Tryd.ntmps63
    go_wp2_with fail
    refine hk.mono ?_
    rintro e' w' ⟨rfl, rfl⟩
    go_wp2_with fail
    go_ret
    exact ⟨rfl, HX.out, Eff.refl _ _⟩
  | none =>
    have c0 : w.cell? ⟨r, 0, none⟩ = some (.slice A bs.length c) := h.blk.cell 0
    have c1 : w.cell? ⟨r, 1, none⟩ = some (.int .i64 p) := h.blk.cell 1
    have hf1 := refFail_any 101 p (by decide) h.le h
    have hf2 := refFail_any 102 p (by decide) h.le h
    have hf3 := refFail_any 103 p (by decide) h.le h
    have hf : ∀ o, w.frozen? ⟨r, o, none⟩ = false := h.blk.frozen
    have hisb := h.isb
    have hlen := h.len
    have hsl := h.sl
    have HX := hid h
    have HN : Hid (numR bs low high p none = numAt low high p (rd (bs.drop p) 0 0)) := rfl
    generalize numR bs low high p none = R at *
    clear h
    go_enter Tryd.func63, Tryd.ntmps63
    go_wp2_with fail
    refine hk.mono ?_
    rintro e' w' ⟨rfl, rfl⟩
    clear hk
    go_wp2_with fail
    go_loopw [7, 8] (fun z i wr => QNum w bs p z i wr) (fun _ i _ => p + 10 - (intOf i).toNat)
    case atStart => unfold QNum; exact ⟨0, 0, p, rfl, rfl, rfl, by omega, by simp, rfl, rfl⟩
    case round =>
    unfold QNum at hrel
    obtain ⟨k, y, n, hn, rfl, rfl, hk, hy, heq, hwr⟩ := hrel
    obtain rfl : w = _ := hwr.symm
    have HQ := hid heq
    clear heq
    by_cases hend : n < bs.length
    case neg =>
      have HO : Hid (R = (0, p, some (101, p))) := by rw [Hid, HN.out, HQ.out, rd_end (by omega)]; rfl
      have hend' : (bs.length : Int) ≤ n := by omega
      clear hf2 hf3 hsl hisb
      go_wp2_with fail
      refine hf1.mono ?_
      rintro e w2 ⟨rfl, hq, he⟩
      go_wp2_with fail
      go_ret
      rw [HO.out]
      exact ⟨rfl, hq, he⟩
    case pos =>
    obtain ⟨b0, o0, rfl, hbw, hcx⟩ := hsl.at (by rw [List.length_map]; omega)
    have hcc : w.cell? ⟨b0, o0 + n, none⟩ = some (.int .u8 bs[n]) := (hcx n (by rw [List.length_map]; omega)).trans (by simp)
    have hrange := hisb _ (List.getElem_mem hend)
    have hstep := rd_drop hend k y
    obtain ⟨x, hx⟩ : ∃ x : Nat, bs[n] = (x : Int) := ⟨bs[n].toNat, by omega⟩
    rw [hx] at hcc hrange hstep
    have HS := hid hstep
    have hend' : (n : Int) < bs.length := by omega
    have hx256 : x < 256 := by omega
    have hsub : IntKind.i64.wrap ((n : Int) - p) = k := by rw [IntKind.wrap_i64]; omega
    have HM := hid hn
    have hn1 : IntKind.i64.wrap ((n : Int) + 1) = ((n + 1 : Nat) : Int) := by rw [IntKind.wrap_i64] <;> omega
    clear hcx hx hstep hrange hn
    go_upto_region 10 with (fail)
    clear c0 hcc
    go_cut [58] from 19 to 77 (fun v wx => v = .bool (decide ((k = 9 ∧ 1 < x) ∨ (0 < k ∧ x = 0))) ∧ wx = w)
    case first =>
      by_cases h9 : k = 9
      · have hkb : ((k : Int) == 9) = true := by simp; omega
        by_cases h1 : 1 < x
        · have h1x : (1 : Int) < x := by omega
          have HO := hid (decide_eq_true (show (k = 9 ∧ 1 < x) ∨ (0 < k ∧ x = 0) from .inl ⟨h9, h1⟩))
          clear h9
          go_wp2_with fail
          go_meet
          exact ⟨by rw [HO.out], rfl⟩
        · have h1x : (x : Int) ≤ 1 := by omega
          have hk0 : 0 < (k : Int) := by omega
          by_cases h0 : x = 0
          · have h0' : ((x : Int) == 0) = true := by simp; omega
            have HO := hid (decide_eq_true (show (k = 9 ∧ 1 < x) ∨ (0 < k ∧ x = 0) from .inr ⟨by omega, h0⟩))
            clear h0
            clear h9
            go_wp2_with fail
            go_meet
            exact ⟨by rw [HO.out], rfl⟩
          · have h0' : ((x : Int) == 0) = false := by simp; omega
            have HO := hid (decide_eq_false (show ¬ ((k = 9 ∧ 1 < x) ∨ (0 < k ∧ x = 0)) from by omega))
            clear h9
            go_wp2_with fail
            go_meet
            exact ⟨by rw [HO.out]; simp; omega, rfl⟩
      · have hkb : ((k : Int) == 9) = false := by simp; omega
        by_cases hk0 : 0 < k
        · have hk0' : 0 < (k : Int) := by omega
          by_cases h0 : x = 0
          · have h0' : ((x : Int) == 0) = true := by simp; omega
            have HO := hid (decide_eq_true (show (k = 9 ∧ 1 < x) ∨ (0 < k ∧ x = 0) from .inr ⟨by omega, h0⟩))
            clear h0
            go_wp2_with fail
            go_meet
            exact ⟨by rw [HO.out], rfl⟩
          · have h0' : ((x : Int) == 0) = false := by simp; omega
            have HO := hid (decide_eq_false (show ¬ ((k = 9 ∧ 1 < x) ∨ (0 < k ∧ x = 0)) from by omega))
            go_wp2_with fail
            go_meet
            exact ⟨by rw [HO.out], rfl⟩
        · have hk0' : ¬ 0 < (k : Int) := by omega
          have HO := hid (decide_eq_false (show ¬ ((k = 9 ∧ 1 < x) ∨ (0 < k ∧ x = 0)) from by omega))
          go_wp2_with fail
          go_meet
          exact ⟨by rw [HO.out], rfl⟩
    case rest =>
    obtain ⟨rfl, hwx⟩ := hcut
    obtain rfl : w = _ := hwx.symm
    by_cases hsh : (k = 9 ∧ 1 < x) ∨ (0 < k ∧ x = 0)
    · have HO : Hid (R = (0, p, some (102, p))) := by
        rw [Hid, HN.out, HQ.out, HS.out]
        rcases hsh with ⟨h, h1⟩ | ⟨h, h1⟩
        · rw [if_pos ⟨h, by omega⟩]; rfl
        · rw [if_neg (by omega), if_neg (by omega), if_pos (by omega)]; rfl
      rw [decide_eq_true hsh]
      clear hsh
      go_wp2_with fail
      refine hf2.mono ?_
      rintro e w2 ⟨rfl, hq, he⟩
      go_wp2_with fail
      go_ret
      rw [HO.out]
      exact ⟨rfl, hq, he⟩
    rw [decide_eq_false hsh]
    have hx9 : k = 9 → x % 128 ≤ 1 := by omega
    have hor := or_step hx256 hk hy hx9
    rw [byte_low hx256, ← byte_and hx256] at hor
    have HU := hid (step_up (x := x) hy)
    have HT := hid (step_top hk hy hx9)
    have HS2 : Hid (rd (bs.drop n) k y = if 128 ≤ x then rd (bs.drop (n + 1)) (k + 1) (y + x % 128 * 2 ^ (7 * k)) else .num (unzz (y + x % 128 * 2 ^ (7 * k))) (k + 1)) := by
      rw [Hid, HS.out, if_neg (by omega)]
      by_cases h128 : 128 ≤ x
      · rw [if_pos (by omega), if_pos h128]; rfl
      · rw [if_neg (by omega), if_neg (by omega), if_neg h128]; rfl
    have hx7 : ((7 : Int) * k).toNat = 7 * k := by omega
    have hw7 : IntKind.i64.wrap (7 * (k : Int)) = 7 * k := by rw [IntKind.wrap_i64]; omega
    generalize hZ : y + x % 128 * 2 ^ (7 * k) = Z at *
    have hx9b : k = 9 → x < 128 := by omega
    by_cases h128 : 128 ≤ x
    · have h128' : ¬ (x : Int) < 128 := by omega
      have HK := hid (show k + 1 ≤ 9 by omega)
      have HF : Hid (rd (bs.drop p) 0 0 = rd (bs.drop (n + 1)) (k + 1) Z) := by rw [Hid, HQ.out, HS2.out, if_pos h128]
      go_wp2_with fail
      have hm := HM.out
      refine ⟨?_, by simp [intOf]; omega⟩
      unfold QNum
      exact ⟨k + 1, Z, n + 1, by omega, by go_num, rfl, HK.out, HU.out, HF.out, rfl⟩
    have h128' : (x : Int) < 128 := by omega
    have HF : Hid (R = numAt low high p (.num (unzz Z) (k + 1))) := by rw [Hid, HN.out, HQ.out, HS2.out, if_neg h128]
    have hZl := HT.out
    have hz1 : bits .and .u64 (Z : Int) 1 = ((Z % 2 : Nat) : Int) := by
      rw [show (1 : Int) = ((1 : Nat) : Int) from rfl, u64_and_nat _ _ hZl (by omega), nat_mask1]
    have hz2 : IntKind.i64.wrap ((Z : Int) / 2) = ((Z / 2 : Nat) : Int) := by rw [IntKind.wrap_i64]; omega
    have HUz : Hid (unzz Z = if Z % 2 = 0 then ((Z / 2 : Nat) : Int) else -((Z / 2 : Nat) : Int) - 1) := rfl
    obtain ⟨V, hV⟩ : ∃ V, V = unzz Z := ⟨_, rfl⟩
    rw [← hV] at HF HUz
    have HV : Hid (numAt low high p (.num V (k + 1)) = if low ≤ V ∧ V ≤ high then (V, p + (k + 1), none) else (0, p, some (103, p))) := rfl
    have HP : Hid (∀ q, q ≤ bs.length → Qdr (w.setCell ⟨r, 1, none⟩ (.int .i64 (q : Nat))) r (some ⟨b0, o0, none⟩) c bs q none) := fun q hq => HX.out.move hq
    clear hf1 hf2 hisb hsl hn1 hwr hwx hV hsh
    by_cases hpar : Z % 2 = 0
    case' pos =>
      have hz0 : bits .and .u64 (Z : Int) 1 = 0 := by rw [hz1, hpar]; rfl
      have hVV : (Z : Int) / 2 = V := by rw [HUz.out, if_pos hpar]; rfl
      clear hz1 hpar
      go_upto_region 19 with (fail)
      try rw [hVV]
    case' neg =>
      have hz0 : bits .and .u64 (Z : Int) 1 = 1 := by rw [hz1, show Z % 2 = 1 by omega]; rfl
      have hVV : bits .xor .i64 (if IntKind.i64.signed = true then -1 else 9223372036854775807) ((Z : Int) / 2) = V := by
        rw [i64_ones_xor ⟨by omega, by omega⟩, HUz.out, if_neg hpar]; omega
      clear hz1 hpar
      go_upto_region 19 with (fail)
      try rw [hVV]
    all_goals
      clear hVV hz0 hx7 hw7 hor hz2 hZ hsub hy hx9 hx9b
      by_cases hl : V < low
      · have HO : Hid (R = (0, p, some (103, p))) := by rw [Hid, HF.out, HV.out, if_neg (by omega)]
        clear HF HV HP
        go_wp2_with fail
        refine hf3.mono ?_
        rintro e w2 ⟨rfl, hq, he⟩
        go_wp2_with fail
        go_ret
        rw [HO.out]
        exact ⟨rfl, hq, he⟩
      · by_cases hh : high < V
        · have HO : Hid (R = (0, p, some (103, p))) := by rw [Hid, HF.out, HV.out, if_neg (by omega)]
          clear HF HV HP
          go_wp2_with fail
          refine hf3.mono ?_
          rintro e w2 ⟨rfl, hq, he⟩
          go_wp2_with fail
          go_ret
          rw [HO.out]
          exact ⟨rfl, hq, he⟩
        · have HO : Hid (R = (V, p + (k + 1), none)) := by rw [Hid, HF.out, HV.out, if_pos (by omega)]
          have HQ2 := HP.out (n + 1) (by omega)
          have HN2 := hid (show n + 1 = p + (k + 1) by have := HM.out; omega)
          clear HF HV hf3 HP
          go_wp2_with fail
          go_ret
          rw [HO.out]
          exact ⟨rfl, HN2.out ▸ HQ2, (Eff.one r w).set 1 _⟩

/-- The reference's reader's state, and what else was turned. -/
structure QSt (W w : World) (r : Nat) (A : Option Addr) (c : Nat) (bs : List Int) (s : RS) : Prop where
  rd : Qdr w r A c bs s.1 s.2
  below : Below W.heap.size W w
def GivesQS (W w : World) (r : Nat) (A : Option Addr) (c : Nat) (bs : List Int) (a : Int × RS) (e : Ending) (w' : World) : Prop := e = .returned (.int .i64 a.1) ∧ QSt W w' r A c bs a.2 ∧ Eff (· = r) w w'
theorem numq_step {W w : World} {r : Nat} {A : Option Addr} {c : Nat} {bs : List Int} {s : RS} (low high : Int) (hrW : W.heap.size ≤ r) (h : QSt W w r A c bs s) :
    Calls Tryd.prog 63 #[.pointer (some ⟨r, 0, none⟩), .int .i64 low, .int .i64 high] w (GivesQS W w r A c bs (numS bs low high s)) := by
  refine (refNum_any low high h.rd).mono ?_
  rintro e w' ⟨he, hR, hx⟩
  exact ⟨he, ⟨hR, hx.below h.below h.below.size (fun i hi q => by omega)⟩, hx⟩
theorem okq_yes {W w : World} {r : Nat} {A : Option Addr} {c : Nat} {bs : List Int} {s : RS} (h : QSt W w r A c bs s) (h0 : s.2 = none) :
    Calls Tryd.prog 66 #[.pointer (some ⟨r, 0, none⟩)] w fun e w' => e = .returned (.bool true) ∧ w = w' := by
  refine (refOk_any h.rd).mono ?_
  rintro e w' ⟨rfl, rfl⟩
  exact ⟨by rw [decide_eq_true h0], rfl⟩
theorem okq_no {W w : World} {r : Nat} {A : Option Addr} {c : Nat} {bs : List Int} {s : RS} (h : QSt W w r A c bs s) (h0 : s.2 ≠ none) :
    Calls Tryd.prog 66 #[.pointer (some ⟨r, 0, none⟩)] w fun e w' => e = .returned (.bool false) ∧ w = w' := by
  refine (refOk_any h.rd).mono ?_
  rintro e w' ⟨rfl, rfl⟩
  exact ⟨by rw [decide_eq_false h0], rfl⟩
theorem QSt.eff {S : Nat → Prop} {W w w' : World} {r : Nat} {A : Option Addr} {c : Nat} {bs : List Int} {s : RS} (h : QSt W w r A c bs s) (he : Eff S w w') (hS : ∀ k, k ≤ r → ¬ S k) (hrW : W.heap.size ≤ r) : QSt W w' r A c bs s :=
  ⟨h.rd.eff he hS, he.below h.below h.below.size (fun i hi q => hS i (by omega) q)⟩
theorem QSt.set {W w w' : World} {r ob : Nat} {A : Option Addr} {c : Nat} {bs : List Int} {s : RS} (h : QSt W w r A c bs s) (hob : r < ob) (hrW : W.heap.size ≤ r) (he : Eff (· = ob) w w') : QSt W w' r A c bs s :=
  h.eff he (fun k h2 h3 => by have h3 : k = ob := h3; omega) hrW
theorem memsR_stuck {bs : List Int} {k : Nat} {s : RS} (h : (memsR bs k s).2.2 ≠ none) : ∀ m, k ≤ m → (memsR bs m s).2 = (memsR bs k s).2 := by
  intro m hm
  induction m with
  | zero => rw [show k = 0 by omega]
  | succ m ih =>
    by_cases hk : k = m + 1
    · rw [hk]
    · rw [memsR]
      show (numS bs 0 15 (memsR bs m s).2).2 = _
      rw [ih (by omega)]
      clear ih
      generalize (memsR bs k s).2 = st at *
      obtain ⟨p, o⟩ := st
      cases o with
      | none => exact absurd rfl h
      | some e => rfl
theorem bidsR_stuck {bs : List Int} {k : Nat} {s : RS} (h : (bidsR bs k s).2.2 ≠ none) : ∀ m, k ≤ m → (bidsR bs m s).2 = (bidsR bs k s).2 := by
  intro m hm
  induction m with
  | zero => rw [show k = 0 by omega]
  | succ m ih =>
    by_cases hk : k = m + 1
    · rw [hk]
    · rw [bidsR]
      show (bidR bs (bidsR bs m s).2).2 = _
      rw [ih (by omega)]
      clear ih
      generalize (bidsR bs k s).2 = st at *
      obtain ⟨p, o⟩ := st
      cases o with
      | none => exact absurd rfl h
      | some e => rfl
theorem numS_none {bs : List Int} {low high : Int} {s : RS} (h : (numS bs low high s).2.2 = none) : s.2 = none := by
  obtain ⟨p, o⟩ := s
  cases o with
  | none => rfl
  | some e => exact h
theorem bidsR_none {bs : List Int} {k : Nat} {s : RS} (h : (bidsR bs k s).2.2 = none) : s.2 = none := by
  induction k with
  | zero => exact h
  | succ k ih => exact ih (numS_none (numS_none h))
theorem entsR_none {bs : List Int} {n : Int} {k : Nat} {s : RS} (h : (entsR bs n k s).2.2 = none) : s.2 = none := by
  induction k with
  | zero => exact h
  | succ k ih =>
    by_cases h0 : (entsR bs n k s).2.2 = none
    · exact ih h0
    · rw [entsR, if_neg h0] at h
      exact absurd h h0
/-- Just the entries that were read whole, or as far as an error. -/
def EntsQ (bs : List Int) (d : Int) (k : Nat) (s : RS) (es : List EntL) : Prop := (entsR bs d k s).2.2 = none → (entsR bs d k s).1 = es.map EntL.pl
def RingQ (W w : World) (r : Nat) (A : Option Addr) (cA : Nat) (bs : List Int) (x : RingP × RS) (e : Ending) (w' : World) : Prop := ∃ (a b c : Int) (MA : Option Addr) (mc : Nat) (ms : List Int) (EA : Option Addr) (es : List EntL) (ec : Nat),
  e = .returned (.agg (ringV a b c MA ms.length mc EA es.length ec)) ∧ (x.2.2 = none → (a, b, c, ms, es.map EntL.pl) = x.1) ∧ RingIs w' MA ms EA es ∧ QSt W w' r A cA bs x.2 ∧ Eff (· = r) w w' ∧ ∀ q, (MA = some q ∨ EA = some q ∨ ∃ y ∈ es, y.A = some q) → w.heap.size ≤ q.block
def MemsRelQ (W w0 : World) (r ob : Nat) (A : Option Addr) (cA : Nat) (bs : List Int) (a b c : Int) (s : RS) (n : Nat) (i : Value) (wr : World) : Prop := ∃ (k : Nat) (v : Value), k ≤ n ∧ i = .int .i64 k ∧ QSt W wr r A cA bs (memsR bs k s).2 ∧
  Blk wr ob [.int .i64 a, .int .i64 b, .int .i64 c, v, .slice none 0 0] 53 ∧ wr.ownsRow w0.heap.size 3 1 v (memsR bs k s).1.length ((memsR bs k s).1.map (Value.int .i64)) ∧ Eff (fun q => q = r ∨ q = ob) w0 wr
def MemsFinQ (W w0 : World) (r ob : Nat) (A : Option Addr) (cA : Nat) (bs : List Int) (a b c : Int) (s : RS) (n : Nat) (wr : World) : Prop := ∃ (ms : List Int) (v : Value), ms.length ≤ n ∧ ((memsR bs n s).2.2 = none → ms = (memsR bs n s).1) ∧ QSt W wr r A cA bs (memsR bs n s).2 ∧
  Blk wr ob [.int .i64 a, .int .i64 b, .int .i64 c, v, .slice none 0 0] 53 ∧ wr.ownsRow w0.heap.size 3 1 v ms.length (ms.map (Value.int .i64)) ∧ Eff (fun q => q = r ∨ q = ob) w0 wr
def EntsRelQ (W w0 : World) (r ob : Nat) (A : Option Addr) (cA : Nat) (bs : List Int) (a b c : Int) (mV : Value) (d : Int) (s : RS) (n : Nat) (i : Value) (wr : World) : Prop := ∃ (k : Nat) (v : Value) (es : List EntL), k ≤ n ∧ i = .int .i64 k ∧ es.length ≤ k ∧ EntsQ bs d k s es ∧ QSt W wr r A cA bs (entsR bs d k s).2 ∧
  Blk wr ob [.int .i64 a, .int .i64 b, .int .i64 c, mV, v] 53 ∧ EntS w0.heap.size wr v es ∧ (∀ e ∈ es, e.bids.length ≤ 16) ∧ Eff (fun q => q = r ∨ q = ob) w0 wr
def BidsRelQ (W w0 : World) (r eb : Nat) (A : Option Addr) (cA : Nat) (bs : List Int) (fl di ge aw : Int) (s : RS) (n : Nat) (i : Value) (wr : World) : Prop := ∃ (k : Nat) (v : Value), k ≤ n ∧ i = .int .i64 k ∧ QSt W wr r A cA bs (bidsR bs k s).2 ∧
  Blk wr eb [.int .i64 fl, .int .i64 di, .int .i64 ge, v, .int .i64 aw] 62 ∧ wr.ownsRow w0.heap.size 59 2 v (bidsR bs k s).1.length ((bidsR bs k s).1.flatMap bidC) ∧ Eff (fun q => q = r ∨ q = eb) w0 wr
def BidsFinQ (W w0 : World) (r eb : Nat) (A : Option Addr) (cA : Nat) (bs : List Int) (fl di ge aw : Int) (s : RS) (n : Nat) (wr : World) : Prop := ∃ (xs : List (Int × Int)) (v : Value), xs.length ≤ n ∧ ((bidsR bs n s).2.2 = none → xs = (bidsR bs n s).1) ∧ QSt W wr r A cA bs (bidsR bs n s).2 ∧
  Blk wr eb [.int .i64 fl, .int .i64 di, .int .i64 ge, v, .int .i64 aw] 62 ∧ wr.ownsRow w0.heap.size 59 2 v xs.length (xs.flatMap bidC) ∧ Eff (fun q => q = r ∨ q = eb) w0 wr
theorem mems_nextQ {W w7 w9 w10 : World} {r ob k n c10 : Nat} {A : Option Addr} {cA : Nat} {bs : List Int} {a b c : Int} {s : RS} {v : Value} {m : List Int × RS} {x : Int × RS} {A10 : Option Addr} (hobr : r < ob) (hw7 : ob < w7.heap.size) (hk : k < n) (hrW : W.heap.size ≤ r) (hown9 : w9.ownsRow w7.heap.size 3 1 v m.1.length (m.1.map (Value.int .i64)))
    (s9 : QSt W w9 r A cA bs x.2) (e9 : Eff (fun q => q = r ∨ q = ob) w7 w9) (hM1 : memsR bs (k + 1) s = (m.1 ++ [x.1], x.2)) (hown10 : w10.ownsRow w7.heap.size 3 1 (.slice A10 (m.1.length + 1) c10) (m.1 ++ [x.1]).length ((m.1 ++ [x.1]).map (Value.int .i64)))
    (he10 : Eff (fun q => v.ownBlock = some q) w9 w10) (hx10 : Blk w10 ob [.int .i64 a, .int .i64 b, .int .i64 c, v, .slice none 0 0] 53) : MemsRelQ W w7 r ob A cA bs a b c s n (.int .i64 ((k : Int) + 1)) (w10.setCell ⟨ob, 3, none⟩ (.slice A10 (m.1.length + 1) c10)) := by
  have hob10 : ∀ q, v.ownBlock = some q → ob < q ∧ w7.heap.size ≤ q := fun q hq => by have := (hown9.lt q hq).1; omega
  have e11 : Eff (· = ob) w10 (w10.setCell ⟨ob, 3, none⟩ (.slice A10 (m.1.length + 1) c10)) := (Eff.one ob w10).set 3 _
  refine ⟨k + 1, .slice A10 (m.1.length + 1) c10, by omega, by go_num, ?_, ?_, ?_, ?_⟩
  · rw [hM1]
    exact (s9.eff he10 (fun q h2 h3 => by have := hob10 q h3; omega) hrW).set hobr hrW e11
  · exact hx10.set 3 _
  · rw [hM1]
    exact e11.row hown10 (fun q hq h3 => by have h3 : q = ob := h3; have := (hown10.lt q hq).1; omega)
  · exact (e9.step he10 (fun i hi h3 => by have h4 := (hob10 i h3).2; omega)).step e11 (fun i hi h3 => .inr h3)
theorem bids_nextQ {W w7 w9 w10 : World} {r eb k n c10 : Nat} {A : Option Addr} {cA : Nat} {bs : List Int} {fl di ge aw : Int} {s : RS} {v : Value} {m : List (Int × Int) × RS} {x y : Int} {sy : RS} {A10 : Option Addr} (hobr : r < eb) (hw7 : eb < w7.heap.size) (hk : k < n) (hrW : W.heap.size ≤ r) (hown9 : w9.ownsRow w7.heap.size 59 2 v m.1.length (m.1.flatMap bidC))
    (s9 : QSt W w9 r A cA bs sy) (e9 : Eff (fun q => q = r ∨ q = eb) w7 w9) (hM1 : bidsR bs (k + 1) s = (m.1 ++ [(x, y)], sy)) (hown10 : w10.ownsRow w7.heap.size 59 2 (.slice A10 (m.1.length + 1) c10) (m.1 ++ [(x, y)]).length ((m.1 ++ [(x, y)]).flatMap bidC))
    (he10 : Eff (fun q => v.ownBlock = some q) w9 w10) (hx10 : Blk w10 eb [.int .i64 fl, .int .i64 di, .int .i64 ge, v, .int .i64 aw] 62) : BidsRelQ W w7 r eb A cA bs fl di ge aw s n (.int .i64 ((k : Int) + 1)) (w10.setCell ⟨eb, 3, none⟩ (.slice A10 (m.1.length + 1) c10)) := by
  have hob10 : ∀ q, v.ownBlock = some q → eb < q ∧ w7.heap.size ≤ q := fun q hq => by have := (hown9.lt q hq).1; omega
  have e11 : Eff (· = eb) w10 (w10.setCell ⟨eb, 3, none⟩ (.slice A10 (m.1.length + 1) c10)) := (Eff.one eb w10).set 3 _
  refine ⟨k + 1, .slice A10 (m.1.length + 1) c10, by omega, by go_num, ?_, ?_, ?_, ?_⟩
  · rw [hM1]
    exact (s9.eff he10 (fun q h2 h3 => by have := hob10 q h3; omega) hrW).set hobr hrW e11
  · exact hx10.set 3 _
  · rw [hM1]
    exact e11.row hown10 (fun q hq h3 => by have h3 : q = eb := h3; have := (hown10.lt q hq).1; omega)
  · exact (e9.step he10 (fun i hi h3 => by have h4 := (hob10 i h3).2; omega)).step e11 (fun i hi h3 => .inr h3)
theorem mems_finQ {W w0 wr : World} {r ob k n : Nat} {A : Option Addr} {cA : Nat} {bs : List Int} {a b c : Int} {s : RS} {v : Value} (hk : k ≤ n) (he : k = n ∨ (memsR bs k s).2.2 ≠ none) (hs : QSt W wr r A cA bs (memsR bs k s).2)
    (hx : Blk wr ob [.int .i64 a, .int .i64 b, .int .i64 c, v, .slice none 0 0] 53) (ho : wr.ownsRow w0.heap.size 3 1 v (memsR bs k s).1.length ((memsR bs k s).1.map (Value.int .i64))) (hE : Eff (fun q => q = r ∨ q = ob) w0 wr) : MemsFinQ W w0 r ob A cA bs a b c s n wr := by
  rcases he with rfl | he
  · exact ⟨_, v, by rw [memsR_len]; exact Nat.le_refl _, fun _ => rfl, hs, hx, ho, hE⟩
  · have hst := memsR_stuck he n hk
    exact ⟨_, v, by rw [memsR_len]; exact hk, fun h => absurd (by rw [← hst]; exact h) he, by rw [hst]; exact hs, hx, ho, hE⟩
theorem bids_finQ {W w0 wr : World} {r eb k n : Nat} {A : Option Addr} {cA : Nat} {bs : List Int} {fl di ge aw : Int} {s : RS} {v : Value} (hk : k ≤ n) (he : k = n ∨ (bidsR bs k s).2.2 ≠ none) (hs : QSt W wr r A cA bs (bidsR bs k s).2)
    (hx : Blk wr eb [.int .i64 fl, .int .i64 di, .int .i64 ge, v, .int .i64 aw] 62) (ho : wr.ownsRow w0.heap.size 59 2 v (bidsR bs k s).1.length ((bidsR bs k s).1.flatMap bidC)) (hE : Eff (fun q => q = r ∨ q = eb) w0 wr) : BidsFinQ W w0 r eb A cA bs fl di ge aw s n wr := by
  rcases he with rfl | he
  · exact ⟨_, v, by rw [bidsR_len]; exact Nat.le_refl _, fun _ => rfl, hs, hx, ho, hE⟩
  · have hst := bidsR_stuck he n hk
    exact ⟨_, v, by rw [bidsR_len]; exact hk, fun h => absurd (by rw [← hst]; exact h) he, by rw [hst]; exact hs, hx, ho, hE⟩
def EntsFinQ (W w9 : World) (r ob : Nat) (A : Option Addr) (cA : Nat) (bs : List Int) (a b c : Int) (mV : Value) (d : Int) (s : RS) (n : Nat) (wx : World) : Prop := ∃ (v : Value) (es : List EntL), EntsQ bs d n s es ∧ QSt W wx r A cA bs (entsR bs d n s).2 ∧
  Blk wx ob [.int .i64 a, .int .i64 b, .int .i64 c, mV, v] 53 ∧ EntS w9.heap.size wx v es ∧ (∀ e ∈ es, e.bids.length ≤ 16) ∧ es.length ≤ n ∧ Eff (fun q => q = r ∨ q = ob) w9 wx
attribute [irreducible] MemsRelQ MemsFinQ EntsRelQ EntsFinQ BidsRelQ BidsFinQ
set_option maxRecDepth 100000 in
set_option maxHeartbeats 8000000 in
theorem refRing_any {W : World} {r : Nat} {A : Option Addr} {cA : Nat} {bs : List Int} {s : RS} (w : World) (hrW : W.heap.size ≤ r) (hrw : r < w.heap.size) (h : QSt W w r A cA bs s) :
    Calls Tryd.prog 65 #[.pointer (some ⟨r, 0, none⟩)] w (RingQ W w r A cA bs (ringR bs s)) := by
  obtain ⟨w1, hw1⟩ : ∃ w1, w1 = (w.alloc (.cells #[.int .i64 0, .int .i64 0, .int .i64 0, .slice none 0 0, .slice none 0 0] 53)).alloc (.cells #[.int .i64 0, .int .i64 0, .int .i64 0, .slice none 0 0, .slice none 0 0] 53) := ⟨_, rfl⟩
  have hb1 : Below w.heap.size w w1 := by rw [hw1]; exact ((Below.refl _ _).alloc (Nat.le_refl _) _).alloc (by simp) _
  have x0 : Blk w1 w.heap.size [.int .i64 0, .int .i64 0, .int .i64 0, .slice none 0 0, .slice none 0 0] 53 := by rw [hw1]; exact (Blk.new w _ _).alloc _
  have x1 : Blk w1 (w.heap.size + 1) [.int .i64 0, .int .i64 0, .int .i64 0, .slice none 0 0, .slice none 0 0] 53 := by
    rw [hw1, show w.heap.size + 1 = (w.alloc (.cells #[.int .i64 0, .int .i64 0, .int .i64 0, .slice none 0 0, .slice none 0 0] 53)).heap.size from by simp]
    exact Blk.new _ _ _
  have s1 : QSt W w1 r A cA bs s := h.eff (Eff.of_below (S := fun _ => False) hb1) (fun _ _ h => h) hrW
  clear h
  generalize hX : ringR bs s = X
  unfold ringR at hX
  obtain ⟨a, ha⟩ : ∃ a, numS bs 1 4294967295 s = a := ⟨_, rfl⟩
  obtain ⟨b, hb⟩ : ∃ b, numS bs 0 15 a.2 = b := ⟨_, rfl⟩
  obtain ⟨c, hc⟩ : ∃ c, numS bs 0 1099511627776 b.2 = c := ⟨_, rfl⟩
  obtain ⟨d, hd⟩ : ∃ d, numS bs 0 16 c.2 = d := ⟨_, rfl⟩
  have hdr := numS_range (bs := bs) (s := c.2) (low := 0) (high := 16) (by omega) (by omega)
  rw [hd] at hdr
  simp only [ha, hb, hc, hd] at hX
  go_enter Tryd.func65, Tryd.ntmps65
  go_upto_region 3 with (fail)
  rw [← hw1]
  clear hw1
  obtain ⟨ob, hob⟩ : ∃ ob, ob = w.heap.size + 1 := ⟨_, rfl⟩
  rw [← hob] at x1 ⊢
  have hobr : r < ob := by omega
  have hobw : w.heap.size < ob := by omega
  have hres : w.heap.size ≠ ob := by omega
  have hrres : r ≠ w.heap.size := by omega
  clear hob
  have q1 := numq_step 1 4294967295 hrW s1
  rw [ha] at q1
  go_wp2_with fail
  refine q1.mono ?_
  rintro e w2 ⟨rfl, s2, e2⟩
  have y1 := e2.blk x1 (fun h => by omega)
  have y0 := e2.blk x0 (fun h => hrres h.symm)
  have E2 : Eff (· = r) w w2 := (Eff.of_below hb1).step e2 (fun _ _ h => h)
  have f0 : w2.cell? ⟨ob, 0, none⟩ = some (.int .i64 0) := y1.cell 0
  have hff : ∀ o, w2.frozen? ⟨ob, o, none⟩ = false := y1.frozen
  clear q1 s1 x0 x1 e2 hb1
  have e3 : Eff (· = ob) w2 (w2.setCell ⟨ob, 0, none⟩ (.int .i64 a.1)) := (Eff.one ob w2).set 0 _
  have z1 := y1.set 0 (.int .i64 a.1)
  have z0 := e3.blk y0 hres
  have s3 := s2.set hobr hrW e3
  have E3 := E2.step e3 (fun i hi h => by omega)
  clear y1 y0 s2 E2 e3
  go_upto_region 4 with (fail)
  generalize w2.setCell ⟨ob, 0, none⟩ (.int .i64 a.1) = w3 at *
  clear f0 hff
  have q1 := numq_step 0 15 hrW s3
  rw [hb] at q1
  go_wp2_with fail
  refine q1.mono ?_
  rintro e w4 ⟨rfl, s4, e4⟩
  have y1 := e4.blk z1 (fun h => by omega)
  have y0 := e4.blk z0 (fun h => hrres h.symm)
  have E4 := E3.trans e4
  have f1 : w4.cell? ⟨ob, 1, none⟩ = some (.int .i64 0) := y1.cell 1
  have hff : ∀ o, w4.frozen? ⟨ob, o, none⟩ = false := y1.frozen
  clear q1 s3 z0 z1 e4 E3
  have e5 : Eff (· = ob) w4 (w4.setCell ⟨ob, 1, none⟩ (.int .i64 b.1)) := (Eff.one ob w4).set 1 _
  have z1 := y1.set 1 (.int .i64 b.1)
  have z0 := e5.blk y0 hres
  have s5 := s4.set hobr hrW e5
  have E5 := E4.step e5 (fun i hi h => by omega)
  clear y1 y0 s4 E4 e5
  go_upto_region 5 with (fail)
  generalize w4.setCell ⟨ob, 1, none⟩ (.int .i64 b.1) = w5 at *
  clear f1 hff
  have q1 := numq_step 0 1099511627776 hrW s5
  rw [hc] at q1
  go_wp2_with fail
  refine q1.mono ?_
  rintro e w6 ⟨rfl, s6, e6⟩
  have y1 := e6.blk z1 (fun h => by omega)
  have y0 := e6.blk z0 (fun h => hrres h.symm)
  have E6 := E5.trans e6
  have f2 : w6.cell? ⟨ob, 2, none⟩ = some (.int .i64 0) := y1.cell 2
  have hff : ∀ o, w6.frozen? ⟨ob, o, none⟩ = false := y1.frozen
  clear q1 s5 z0 z1 e6 E5
  have e7 : Eff (· = ob) w6 (w6.setCell ⟨ob, 2, none⟩ (.int .i64 c.1)) := (Eff.one ob w6).set 2 _
  have z1 := y1.set 2 (.int .i64 c.1)
  have z0 := e7.blk y0 hres
  have s7 := s6.set hobr hrW e7
  have E7 := E6.step e7 (fun i hi h => by omega)
  clear y1 y0 s6 E6 e7
  go_upto_region 6 with (fail)
  generalize w6.setCell ⟨ob, 2, none⟩ (.int .i64 c.1) = w7 at *
  clear f2 hff
  have q1 := numq_step 0 16 hrW s7
  rw [hd] at q1
  go_wp2_with fail
  refine q1.mono ?_
  rintro e w8 ⟨rfl, s8, e8⟩
  have y1 := e8.blk z1 (fun h => by omega)
  have y0 := e8.blk z0 (fun h => hrres h.symm)
  have E8 := E7.trans e8
  clear q1 s7 z0 z1 e8 E7
  obtain ⟨dn, hdn⟩ : ∃ dn : Nat, d.1 = dn := ⟨d.1.toNat, by omega⟩
  have hdn16 : dn ≤ 16 := by omega
  rw [hdn, Int.toNat_natCast] at hX
  rw [hdn]
  clear hdr
  have hw8 : ob < w8.heap.size := y1.lt
  have hx8 : Blk w8 ob [.int .i64 a.1, .int .i64 b.1, .int .i64 c.1, .slice none 0 0, .slice none 0 0] 53 := y1
  clear y1
  go_upto_block 0 with (fail)
  go_cut [] (fun wx => MemsFinQ W w8 r ob A cA bs a.1 b.1 c.1 d.2 dn wx)
  case first =>
    go_wp2_with fail
    go_loopw [6] (fun i wr => MemsRelQ W w8 r ob A cA bs a.1 b.1 c.1 d.2 dn i wr) (fun i _ => dn - (intOf i).toNat)
    case atStart => unfold MemsRelQ; exact ⟨0, .slice none 0 0, Nat.zero_le _, rfl, s8, hx8, World.ownsRow_nil _ _ _ _, Eff.refl _ _⟩
    case round =>
    clear s8 hx8
    unfold MemsRelQ at hrel
    obtain ⟨k, v, hk, rfl, s9, hx9, hown9, e9⟩ := hrel
    by_cases hlt : k < dn
    case neg =>
      obtain rfl : dn = k := by omega
      have HF := hid (mems_finQ hk (.inl rfl) s9 hx9 hown9 e9)
      clear s9 hx9 hown9 e9 hX
      go_wp2_with fail
      go_meet
      exact HF.out
    case pos =>
    have hlt' : (k : Int) < dn := by omega
    by_cases hno : (memsR bs k d.2).2.2 = none
    case neg =>
      have hok := okq_no s9 hno
      have HF := hid (mems_finQ hk (.inr hno) s9 hx9 hown9 e9)
      clear s9 hx9 hown9 e9 hX hno
      go_wp2_with fail
      refine hok.mono ?_
      rintro e w' ⟨rfl, rfl⟩
      go_wp2_with fail
      go_meet
      exact HF.out
    case pos =>
    have hok := okq_yes s9 hno
    obtain ⟨x, hx⟩ : ∃ x, numS bs 0 15 (memsR bs k d.2).2 = x := ⟨_, rfl⟩
    have hsl := memsR_len bs k d.2
    have hM1 : memsR bs (k + 1) d.2 = ((memsR bs k d.2).1 ++ [x.1], x.2) := by rw [memsR, hx]
    have s9d : QSt W wr.drew r A cA bs (memsR bs k d.2).2 := s9.eff (Eff.of_below (S := fun _ => False) (Below.refl _ _).drew) (fun _ _ h => h) hrW
    have q1 := numq_step 0 15 hrW s9d
    rw [hx] at q1
    have r3 : wr.drew.cell? ⟨ob, 3, none⟩ = some v := hx9.cell 3
    have hl8 : ob < wr.heap.size := hx9.lt
    have HK := hid (And.intro hown9 (And.intro hx9.drew (And.intro e9.drew hM1)))
    have HSL := hid hsl
    clear s9 hx9 hown9 e9 hM1 s9d hsl hx hno hX
    generalize memsR bs k d.2 = m at *
    go_wp2_with fail
    refine hok.mono ?_
    rintro e w' ⟨rfl, rfl⟩
    clear hok
    go_wp2_with fail
    refine wp_region_any (by kernel_rfl) ?_
    change wpAny _ _ _ _ _ _ _ (World.drew _)
    refine any_take 0 ?_ rfl (by kernel_rfl) (by kernel_rfl) (by kernel_rfl) (fun _ _ _ h => h) (by rfl) ?_ ?_
    rotate_left
    · (intro w; go_simp; try with_reducible rfl)
    try simp only [Act.put, List.setIfInBounds_toArray, List.set_cons_zero, List.set_cons_succ]
    refine any_take 2 ?_ rfl (by kernel_rfl) (by kernel_rfl) (by kernel_rfl) (fun _ _ _ h => h) (by rfl) ?_ ?_
    rotate_left
    · (intro w; go_simp; try with_reducible rfl)
    try simp only [Act.put, List.setIfInBounds_toArray, List.set_cons_zero, List.set_cons_succ]
    refine any_take 3 ?_ rfl (by kernel_rfl) (by kernel_rfl) (by kernel_rfl) (fun _ _ _ h => h) (by rfl) ?_ ?_
    rotate_left
    · (intro w; go_simp; try with_reducible rfl)
    try simp only [Act.put, List.setIfInBounds_toArray, List.set_cons_zero, List.set_cons_succ]
    refine any_two 1 4 rfl rfl (by kernel_rfl) (by rfl) (by rfl) ?_ ?_
    · intro K hK
      go_simp
      refine hK _ _ ?_
      clear hK K
      try simp only [Act.put, List.setIfInBounds_toArray, List.set_cons_zero, List.set_cons_succ]
      refine any_one 4 rfl (by kernel_rfl) (by rfl) ?_
      intro K hK
      go_simp
      refine q1.mono ?_
      rintro e w9 ⟨rfl, s9, e9⟩
      have hx9 := e9.blk HK.out.2.1 (fun h => by omega)
      have r3' : w9.cell? ⟨ob, 3, none⟩ = some v := hx9.cell 3
      have hl9 : ob < w9.heap.size := hx9.lt
      have hown9 := e9.row (show wr.drew.ownsRow _ _ _ _ _ _ from HK.out.1) (fun q hq h => by have := (HK.out.1.lt q hq).1; omega)
      have HN := hid (And.intro hown9 (And.intro hx9 (And.intro s9 (HK.out.2.2.1.step e9 (fun i _ h => .inl h)))))
      clear hown9 hx9 s9 e9
      refine hK _ _ ?_
      clear hK K
      try simp only [Act.put, List.setIfInBounds_toArray, List.set_cons_zero, List.set_cons_succ]
      refine any_one 5 rfl (by kernel_rfl) (by rfl) ?_
      intro K hK
      go_simp
      refine hK _ _ ?_
      clear hK K
      try simp only [Act.put, List.setIfInBounds_toArray, List.set_cons_zero, List.set_cons_succ]
      refine any_one 6 rfl (by kernel_rfl) (by rfl) ?_
      intro K hK
      refine wp_append_int2 (.tmp 38) (.tmp 42) rfl rfl HN.out.1 x.1 w9.heap.size rfl rfl rfl (by have := HSL.out; omega) HN.out.2.2.2.size ?_
      intro A10 c10 w10 hown10 he10
      have hx10 := he10.blk HN.out.2.1 (fun h => by have := (HN.out.1.lt _ h).1; omega)
      have r10 : w10.cell? ⟨ob, 3, none⟩ = some v := hx10.cell 3
      have hf10 : ∀ o, w10.frozen? ⟨ob, o, none⟩ = false := hx10.frozen
      have HP := hid (And.intro hown10 (And.intro he10 hx10))
      clear hown10 he10 hx10
      refine hK _ _ ?_
      clear hK K
      try simp only [Act.put, List.setIfInBounds_toArray, List.set_cons_zero, List.set_cons_succ]
      refine any_take 7 ?_ rfl (by kernel_rfl) (by kernel_rfl) (by kernel_rfl) (fun _ _ _ h => h) (by rfl) ?_ ?_
      rotate_left
      · (intro w; go_simp; try with_reducible rfl)
      try simp only [Act.put, List.setIfInBounds_toArray, List.set_cons_zero, List.set_cons_succ]
      refine any_one 8 rfl (by kernel_rfl) (by rfl) ?_
      intro K hK
      go_simp
      refine hK _ _ ?_
      clear hK K
      try simp only [Act.put, List.setIfInBounds_toArray, List.set_cons_zero, List.set_cons_succ]
      refine wpAny_done (by kernel_rfl) ?_ _
      go_wp2_with fail
      go_roundw
      case rel => exact mems_nextQ hobr hw8 hlt hrW HN.out.1 HN.out.2.2.1 HN.out.2.2.2 HK.out.2.2.2 HP.out.1 HP.out.2.1 HP.out.2.2
      case measure => simp [intOf]; omega
    · intro K hK
      go_simp
      refine q1.mono ?_
      rintro e w9 ⟨rfl, s9, e9⟩
      have hx9 := e9.blk HK.out.2.1 (fun h => by omega)
      have r3' : w9.cell? ⟨ob, 3, none⟩ = some v := hx9.cell 3
      have hl9 : ob < w9.heap.size := hx9.lt
      have hown9 := e9.row (show wr.drew.ownsRow _ _ _ _ _ _ from HK.out.1) (fun q hq h => by have := (HK.out.1.lt q hq).1; omega)
      have HN := hid (And.intro hown9 (And.intro hx9 (And.intro s9 (HK.out.2.2.1.step e9 (fun i _ h => .inl h)))))
      clear hown9 hx9 s9 e9
      refine hK _ _ ?_
      clear hK K
      try simp only [Act.put, List.setIfInBounds_toArray, List.set_cons_zero, List.set_cons_succ]
      refine any_two 1 5 rfl rfl (by kernel_rfl) (by rfl) (by rfl) ?_ ?_
      · intro K hK
        go_simp
        refine hK _ _ ?_
        clear hK K
        try simp only [Act.put, List.setIfInBounds_toArray, List.set_cons_zero, List.set_cons_succ]
        refine any_one 5 rfl (by kernel_rfl) (by rfl) ?_
        intro K hK
        go_simp
        refine hK _ _ ?_
        clear hK K
        try simp only [Act.put, List.setIfInBounds_toArray, List.set_cons_zero, List.set_cons_succ]
        refine any_one 6 rfl (by kernel_rfl) (by rfl) ?_
        intro K hK
        refine wp_append_int2 (.tmp 38) (.tmp 42) rfl rfl HN.out.1 x.1 w9.heap.size rfl rfl rfl (by have := HSL.out; omega) HN.out.2.2.2.size ?_
        intro A10 c10 w10 hown10 he10
        have hx10 := he10.blk HN.out.2.1 (fun h => by have := (HN.out.1.lt _ h).1; omega)
        have r10 : w10.cell? ⟨ob, 3, none⟩ = some v := hx10.cell 3
        have hf10 : ∀ o, w10.frozen? ⟨ob, o, none⟩ = false := hx10.frozen
        have HP := hid (And.intro hown10 (And.intro he10 hx10))
        clear hown10 he10 hx10
        refine hK _ _ ?_
        clear hK K
        try simp only [Act.put, List.setIfInBounds_toArray, List.set_cons_zero, List.set_cons_succ]
        refine any_take 7 ?_ rfl (by kernel_rfl) (by kernel_rfl) (by kernel_rfl) (fun _ _ _ h => h) (by rfl) ?_ ?_
        rotate_left
        · (intro w; go_simp; try with_reducible rfl)
        try simp only [Act.put, List.setIfInBounds_toArray, List.set_cons_zero, List.set_cons_succ]
        refine any_one 8 rfl (by kernel_rfl) (by rfl) ?_
        intro K hK
        go_simp
        refine hK _ _ ?_
        clear hK K
        try simp only [Act.put, List.setIfInBounds_toArray, List.set_cons_zero, List.set_cons_succ]
        refine wpAny_done (by kernel_rfl) ?_ _
        go_wp2_with fail
        go_roundw
        case rel => exact mems_nextQ hobr hw8 hlt hrW HN.out.1 HN.out.2.2.1 HN.out.2.2.2 HK.out.2.2.2 HP.out.1 HP.out.2.1 HP.out.2.2
        case measure => simp [intOf]; omega
      · intro K hK
        go_simp
        refine hK _ _ ?_
        clear hK K
        try simp only [Act.put, List.setIfInBounds_toArray, List.set_cons_zero, List.set_cons_succ]
        refine any_one 1 rfl (by kernel_rfl) (by rfl) ?_
        intro K hK
        go_simp
        refine hK _ _ ?_
        clear hK K
        try simp only [Act.put, List.setIfInBounds_toArray, List.set_cons_zero, List.set_cons_succ]
        refine any_one 6 rfl (by kernel_rfl) (by rfl) ?_
        intro K hK
        refine wp_append_int2 (.tmp 38) (.tmp 42) rfl rfl HN.out.1 x.1 w9.heap.size rfl rfl rfl (by have := HSL.out; omega) HN.out.2.2.2.size ?_
        intro A10 c10 w10 hown10 he10
        have hx10 := he10.blk HN.out.2.1 (fun h => by have := (HN.out.1.lt _ h).1; omega)
        have r10 : w10.cell? ⟨ob, 3, none⟩ = some v := hx10.cell 3
        have hf10 : ∀ o, w10.frozen? ⟨ob, o, none⟩ = false := hx10.frozen
        have HP := hid (And.intro hown10 (And.intro he10 hx10))
        clear hown10 he10 hx10
        refine hK _ _ ?_
        clear hK K
        try simp only [Act.put, List.setIfInBounds_toArray, List.set_cons_zero, List.set_cons_succ]
        refine any_take 7 ?_ rfl (by kernel_rfl) (by kernel_rfl) (by kernel_rfl) (fun _ _ _ h => h) (by rfl) ?_ ?_
        rotate_left
        · (intro w; go_simp; try with_reducible rfl)
        try simp only [Act.put, List.setIfInBounds_toArray, List.set_cons_zero, List.set_cons_succ]
        refine any_one 8 rfl (by kernel_rfl) (by rfl) ?_
        intro K hK
        go_simp
        refine hK _ _ ?_
        clear hK K
        try simp only [Act.put, List.setIfInBounds_toArray, List.set_cons_zero, List.set_cons_succ]
        refine wpAny_done (by kernel_rfl) ?_ _
        go_wp2_with fail
        go_roundw
        case rel => exact mems_nextQ hobr hw8 hlt hrW HN.out.1 HN.out.2.2.1 HN.out.2.2.2 HK.out.2.2.2 HP.out.1 HP.out.2.1 HP.out.2.2
        case measure => simp [intOf]; omega
  case rest =>
  clear s8 hx8
  unfold MemsFinQ at hcut
  obtain ⟨ms, v, hmsl, hmsn, s9, hx9, hown9, e9⟩ := hcut
  generalize memsR bs dn d.2 = M at *
  obtain ⟨MA, mc, rfl, _, _, hsm⟩ := Sl.row hown9
  have E9 : Eff (· = r) w wc := E8.step e9 (fun i hi h => by rcases h with h | h <;> omega)
  have u0 := e9.blk y0 (fun h => by rcases h with h | h <;> omega)
  have hMo : ∀ q, (Value.slice MA ms.length mc).ownBlock = some q → ob < q ∧ q < wc.heap.size := fun q hq => by have := hown9.lt q hq; omega
  obtain ⟨e, he⟩ : ∃ e, numS bs 0 128 M.2 = e := ⟨_, rfl⟩
  have her := numS_range (bs := bs) (s := M.2) (low := 0) (high := 128) (by omega) (by omega)
  rw [he] at her
  obtain ⟨en, hen⟩ : ∃ en : Nat, e.1 = en := ⟨e.1.toNat, by omega⟩
  have hen128 : en ≤ 128 := by omega
  have q1 := numq_step 0 128 hrW s9
  rw [he] at q1
  simp only [he] at hX
  rw [hen, Int.toNat_natCast] at hX
  have HX := hid hX
  have HML := hid hmsl
  have HMN := hid hmsn
  clear hX hmsl hmsn hown9 s9 e9 y0 E8 her
  go_wp2_with fail
  refine q1.mono ?_
  rintro e' w10 ⟨rfl, s10, e10⟩
  have x10 := e10.blk hx9 (fun h => by omega)
  have E10 := E9.trans e10
  have v0 := e10.blk u0 (fun h => hrres h.symm)
  have hsm10 := hsm.eff e10 (fun q hq h => by have := (hMo q.block (by rw [hq]; rfl)).1; omega)
  rw [hen]
  have hsz10 := e10.size
  have HE := hid he
  clear hx9 E9 e10 u0 hsm q1 he
  have hw10 : ob < w10.heap.size := x10.lt
  have hMw10 : ∀ q, MA = some q → q.block < w10.heap.size ∧ ob < q.block := fun q hq => by
    have h1 := hMo q.block (by rw [hq]; rfl)
    have h2 := hsz10
    omega
  go_upto_block 2 with (fail)
  go_cut [] (fun wx => EntsFinQ W w10 r ob A cA bs a.1 b.1 c.1 (.slice MA ms.length mc) dn e.2 en wx)
  case first =>
    go_wp2_with fail
    go_loopw [8] (fun i wr => EntsRelQ W w10 r ob A cA bs a.1 b.1 c.1 (.slice MA ms.length mc) dn e.2 en i wr) (fun i _ => en - (intOf i).toNat)
    case atStart => unfold EntsRelQ; exact ⟨0, .slice none 0 0, [], Nat.zero_le _, rfl, Nat.le_refl _, fun _ => rfl, s10, x10, EntS.nil _ _, (fun _ h => by cases h), Eff.refl _ _⟩
    case round =>
    clear s10 x10
    unfold EntsRelQ at hrel
    obtain ⟨k, v, es, hk, rfl, hesk, hes, s11, hx11, hS, hb16, e11⟩ := hrel
    by_cases hlt : k < en
    case neg =>
      obtain rfl : en = k := by omega
      have HF := hid (And.intro hes (And.intro s11 (And.intro hx11 (And.intro hS (And.intro hb16 (And.intro hesk e11))))))
      clear hes s11 hx11 hS hb16 hesk e11
      go_wp2_with fail
      go_meet
      unfold EntsFinQ
      exact ⟨v, es, HF.out⟩
    case pos =>
    have hlt' : (k : Int) < en := by omega
    by_cases hno : (entsR bs dn k e.2).2.2 = none
    case neg =>
      have hst := entsR_stuck hno en hk
      have hes' : EntsQ bs dn en e.2 es := fun h => absurd (by rw [← hst]; exact h) hno
      have hok := okq_no s11 hno
      rw [← hst] at s11
      have hesk' : es.length ≤ en := by omega
      have HF := hid (And.intro hes' (And.intro s11 (And.intro hx11 (And.intro hS (And.intro hb16 (And.intro hesk' e11))))))
      clear hes s11 hx11 hS hb16 hesk e11 hno hst hes'
      go_wp2_with fail
      refine hok.mono ?_
      rintro e' w' ⟨rfl, rfl⟩
      go_wp2_with fail
      go_meet
      unfold EntsFinQ
      exact ⟨v, es, HF.out⟩
    case pos =>
    have hok := okq_yes s11 hno
    have hpl := hes hno
    have hnx : entsR bs dn (k + 1) e.2 = ((entsR bs dn k e.2).1 ++ [(entR bs dn (entsR bs dn k e.2).2).1], (entR bs dn (entsR bs dn k e.2).2).2) := by rw [entsR, if_pos hno]
    rw [hpl] at hnx
    clear hes hpl hno
    generalize (entsR bs dn k e.2).2 = S11 at *
    obtain ⟨fl, hfl⟩ : ∃ fl, numS bs 0 63 S11 = fl := ⟨_, rfl⟩
    obtain ⟨di, hdi⟩ : ∃ di, numS bs (-1) 1 fl.2 = di := ⟨_, rfl⟩
    obtain ⟨ge, hge⟩ : ∃ ge, numS bs 1 2147483647 di.2 = ge := ⟨_, rfl⟩
    obtain ⟨aw, haw⟩ : ∃ aw, numS bs (-1) 15 ge.2 = aw := ⟨_, rfl⟩
    obtain ⟨nb, hnb⟩ : ∃ nb, numS bs 0 dn aw.2 = nb := ⟨_, rfl⟩
    have hnbr := numS_range (bs := bs) (s := aw.2) (low := 0) (high := dn) (by omega) (by omega)
    rw [hnb] at hnbr
    obtain ⟨nbn, hnbn⟩ : ∃ nbn : Nat, nb.1 = nbn := ⟨nb.1.toNat, by omega⟩
    have hnb16 : nbn ≤ 16 := by omega
    have hent : entR bs dn S11 = ((fl.1, di.1, ge.1, aw.1, (bidsR bs nbn nb.2).1), (bidsR bs nbn nb.2).2) := by
      unfold entR
      simp only [hfl, hdi, hge, haw, hnb, hnbn, Int.toNat_natCast]
    rw [hent] at hnx
    clear hent
    go_wp2_with fail
    refine hok.mono ?_
    rintro e' w' ⟨rfl, rfl⟩
    clear hok
    go_upto_region 16 with (fail)
    have hb12 : Below wr.heap.size wr (wr.alloc (.cells #[.int .i64 0, .int .i64 0, .int .i64 0, .slice none 0 0, .int .i64 0] 62)) := (Below.refl _ _).alloc (Nat.le_refl _) _
    have x12 : Blk (wr.alloc (.cells #[.int .i64 0, .int .i64 0, .int .i64 0, .slice none 0 0, .int .i64 0] 62)) wr.heap.size [.int .i64 0, .int .i64 0, .int .i64 0, .slice none 0 0, .int .i64 0] 62 := Blk.new wr _ _
    have s12 := s11.eff (Eff.of_below (S := fun _ => False) hb12) (fun _ _ h => h) hrW
    have hx12 := (Eff.of_below (S := fun _ => False) hb12).blk hx11 (fun h => h)
    have hvl : ∀ q, v.ownBlock = some q → w10.heap.size ≤ q ∧ q < wr.heap.size := hS.row.lt
    have hobe : ob < wr.heap.size := hx11.lt
    have hw10e : w10.heap.size ≤ wr.heap.size := e11.size
    have h0 : Eff (fun q => q = r) wr (wr.alloc (.cells #[.int .i64 0, .int .i64 0, .int .i64 0, .slice none 0 0, .int .i64 0] 62)) := Eff.of_below hb12
    have HS0 := hid (And.intro hS (And.intro hx11 (And.intro e11 h0)))
    clear hS hx11 e11 s11 hb12 h0
    generalize wr.alloc (.cells #[.int .i64 0, .int .i64 0, .int .i64 0, .slice none 0 0, .int .i64 0] 62) = w11 at *
    obtain ⟨eb, heb⟩ : ∃ eb, eb = wr.heap.size := ⟨_, rfl⟩
    have HEB := hid heb
    rw [← heb] at x12 hvl hobe hw10e ⊢
    clear heb
    have hebr : r ≠ eb := by omega
    have hebr2 : r < eb := by omega
    have E11 : Eff (fun q => q = r ∨ q = eb) w11 w11 := Eff.refl _ _
    have HB := hid (And.intro hnx (And.intro hb16 (And.intro hvl hesk)))
    clear hnx hb16 hx12 hvl hesk
    have hebw : eb < w11.heap.size := x12.lt
    have x11 := x12
    have s11 := s12
    clear x12 s12
    have q1 := numq_step 0 63 hrW s11
    rw [hfl] at q1
    go_wp2_with fail
    refine q1.mono ?_
    rintro e' w12 ⟨rfl, s12, t12⟩
    have x12 := t12.blk x11 (fun h => hebr h.symm)
    have f0 : w12.cell? ⟨eb, 0, none⟩ = some (.int .i64 0) := x12.cell 0
    have hff : ∀ o, w12.frozen? ⟨eb, o, none⟩ = false := x12.frozen
    have t13 : Eff (· = eb) w12 (w12.setCell ⟨eb, 0, none⟩ (.int .i64 fl.1)) := (Eff.one eb w12).set 0 _
    have x13 : Blk (w12.setCell ⟨eb, 0, none⟩ (.int .i64 fl.1)) eb [.int .i64 fl.1, .int .i64 0, .int .i64 0, .slice none 0 0, .int .i64 0] 62 := x12.set 0 (.int .i64 fl.1)
    have s13 : QSt W (w12.setCell ⟨eb, 0, none⟩ (.int .i64 fl.1)) r A cA bs fl.2 := s12.set hebr2 hrW t13
    have E13 : Eff (fun q => q = r ∨ q = eb) w11 (w12.setCell ⟨eb, 0, none⟩ (.int .i64 fl.1)) := (E11.step t12 (fun i _ h => .inl h)).step t13 (fun i _ h => .inr h)
    clear q1 s11 x11 t12 E11 s12 x12 t13
    go_upto_region 17 with (fail)
    generalize w12.setCell ⟨eb, 0, none⟩ (.int .i64 fl.1) = w13 at *
    clear f0 hff
    have q1 := numq_step (-1) 1 hrW s13
    rw [hdi] at q1
    go_wp2_with fail
    refine q1.mono ?_
    rintro e' w14 ⟨rfl, s14, t14⟩
    have x14 := t14.blk x13 (fun h => hebr h.symm)
    have f1 : w14.cell? ⟨eb, 1, none⟩ = some (.int .i64 0) := x14.cell 1
    have hff : ∀ o, w14.frozen? ⟨eb, o, none⟩ = false := x14.frozen
    have t15 : Eff (· = eb) w14 (w14.setCell ⟨eb, 1, none⟩ (.int .i64 di.1)) := (Eff.one eb w14).set 1 _
    have x15 : Blk (w14.setCell ⟨eb, 1, none⟩ (.int .i64 di.1)) eb [.int .i64 fl.1, .int .i64 di.1, .int .i64 0, .slice none 0 0, .int .i64 0] 62 := x14.set 1 (.int .i64 di.1)
    have s15 : QSt W (w14.setCell ⟨eb, 1, none⟩ (.int .i64 di.1)) r A cA bs di.2 := s14.set hebr2 hrW t15
    have E15 : Eff (fun q => q = r ∨ q = eb) w11 (w14.setCell ⟨eb, 1, none⟩ (.int .i64 di.1)) := (E13.step t14 (fun i _ h => .inl h)).step t15 (fun i _ h => .inr h)
    clear q1 s13 x13 t14 E13 s14 x14 t15
    go_upto_region 18 with (fail)
    generalize w14.setCell ⟨eb, 1, none⟩ (.int .i64 di.1) = w15 at *
    clear f1 hff
    have q1 := numq_step 1 2147483647 hrW s15
    rw [hge] at q1
    go_wp2_with fail
    refine q1.mono ?_
    rintro e' w16 ⟨rfl, s16, t16⟩
    have x16 := t16.blk x15 (fun h => hebr h.symm)
    have f2 : w16.cell? ⟨eb, 2, none⟩ = some (.int .i64 0) := x16.cell 2
    have hff : ∀ o, w16.frozen? ⟨eb, o, none⟩ = false := x16.frozen
    have t17 : Eff (· = eb) w16 (w16.setCell ⟨eb, 2, none⟩ (.int .i64 ge.1)) := (Eff.one eb w16).set 2 _
    have x17 : Blk (w16.setCell ⟨eb, 2, none⟩ (.int .i64 ge.1)) eb [.int .i64 fl.1, .int .i64 di.1, .int .i64 ge.1, .slice none 0 0, .int .i64 0] 62 := x16.set 2 (.int .i64 ge.1)
    have s17 : QSt W (w16.setCell ⟨eb, 2, none⟩ (.int .i64 ge.1)) r A cA bs ge.2 := s16.set hebr2 hrW t17
    have E17 : Eff (fun q => q = r ∨ q = eb) w11 (w16.setCell ⟨eb, 2, none⟩ (.int .i64 ge.1)) := (E15.step t16 (fun i _ h => .inl h)).step t17 (fun i _ h => .inr h)
    clear q1 s15 x15 t16 E15 s16 x16 t17
    go_upto_region 19 with (fail)
    generalize w16.setCell ⟨eb, 2, none⟩ (.int .i64 ge.1) = w17 at *
    clear f2 hff
    have q1 := numq_step (-1) 15 hrW s17
    rw [haw] at q1
    go_wp2_with fail
    refine q1.mono ?_
    rintro e' w18 ⟨rfl, s18, t18⟩
    have x18 := t18.blk x17 (fun h => hebr h.symm)
    have f4 : w18.cell? ⟨eb, 4, none⟩ = some (.int .i64 0) := x18.cell 4
    have hff : ∀ o, w18.frozen? ⟨eb, o, none⟩ = false := x18.frozen
    have t19 : Eff (· = eb) w18 (w18.setCell ⟨eb, 4, none⟩ (.int .i64 aw.1)) := (Eff.one eb w18).set 4 _
    have x19 : Blk (w18.setCell ⟨eb, 4, none⟩ (.int .i64 aw.1)) eb [.int .i64 fl.1, .int .i64 di.1, .int .i64 ge.1, .slice none 0 0, .int .i64 aw.1] 62 := x18.set 4 (.int .i64 aw.1)
    have s19 : QSt W (w18.setCell ⟨eb, 4, none⟩ (.int .i64 aw.1)) r A cA bs aw.2 := s18.set hebr2 hrW t19
    have E19 : Eff (fun q => q = r ∨ q = eb) w11 (w18.setCell ⟨eb, 4, none⟩ (.int .i64 aw.1)) := (E17.step t18 (fun i _ h => .inl h)).step t19 (fun i _ h => .inr h)
    clear q1 s17 x17 t18 E17 s18 x18 t19
    go_upto_region 20 with (fail)
    generalize w18.setCell ⟨eb, 4, none⟩ (.int .i64 aw.1) = w19 at *
    clear f4 hff
    have q1 := numq_step 0 dn hrW s19
    rw [hnb] at q1
    go_wp2_with fail
    refine q1.mono ?_
    rintro e' w20 ⟨rfl, s20, t20⟩
    have x20 := t20.blk x19 (fun h => hebr h.symm)
    have E20 := E19.step t20 (fun i _ h => .inl h)
    rw [hnbn]
    have heb20 : eb < w20.heap.size := x20.lt
    clear q1 s19 x19 t20 E19 hnbr
    go_upto_block 4 with (fail)
    go_cut [11, 12] from 47 to 104 (fun _ _ wx => BidsFinQ W w20 r eb A cA bs fl.1 di.1 ge.1 aw.1 nb.2 nbn wx)
    case first =>
      go_wp2_with fail
      go_loopw [11, 12] (fun i _ wr => BidsRelQ W w20 r eb A cA bs fl.1 di.1 ge.1 aw.1 nb.2 nbn i wr) (fun i _ _ => nbn - (intOf i).toNat)
      case atStart => unfold BidsRelQ; exact ⟨0, .slice none 0 0, Nat.zero_le _, rfl, s20, x20, World.ownsRow_nil _ _ _ _, Eff.refl _ _⟩
      case round =>
      clear s20 x20
      unfold BidsRelQ at hrel
      obtain ⟨j, u, hj, rfl, s21, x21, hown21, e21⟩ := hrel
      by_cases hjl : j < nbn
      case neg =>
        obtain rfl : nbn = j := by omega
        have HF := hid (bids_finQ hj (.inl rfl) s21 x21 hown21 e21)
        clear s21 x21 hown21 e21
        go_wp2_with fail
        go_meet
        exact HF.out
      case pos =>
      have hjl' : (j : Int) < nbn := by omega
      by_cases hno : (bidsR bs j nb.2).2.2 = none
      case neg =>
        have hok := okq_no s21 hno
        have HF := hid (bids_finQ hj (.inr hno) s21 x21 hown21 e21)
        clear s21 x21 hown21 e21 hno
        go_wp2_with fail
        refine hok.mono ?_
        rintro e' w' ⟨rfl, rfl⟩
        go_wp2_with fail
        go_meet
        exact HF.out
      case pos =>
      have hok := okq_yes s21 hno
      obtain ⟨x, hx⟩ : ∃ x, numS bs 0 15 (bidsR bs j nb.2).2 = x := ⟨_, rfl⟩
      obtain ⟨y, hy⟩ : ∃ y, numS bs 0 1048576 x.2 = y := ⟨_, rfl⟩
      have hsl := bidsR_len bs j nb.2
      have hM1 : bidsR bs (j + 1) nb.2 = ((bidsR bs j nb.2).1 ++ [(x.1, y.1)], y.2) := by rw [bidsR, bidR, hx, hy]
      have q1 := numq_step 0 15 hrW s21
      rw [hx] at q1
      have hl8 : eb < wr.heap.size := x21.lt
      have HK := hid (And.intro hown21 (And.intro x21 (And.intro e21 hM1)))
      have HSL := hid hsl
      clear s21 x21 hown21 e21 hM1 hsl hx hno
      generalize bidsR bs j nb.2 = mm at *
      go_wp2_with fail
      refine hok.mono ?_
      rintro e' w' ⟨rfl, rfl⟩
      clear hok
      go_wp2_with fail
      refine q1.mono ?_
      rintro e' w22 ⟨rfl, s22, t22⟩
      clear q1
      have x22 := t22.blk HK.out.2.1 (fun h => hebr h.symm)
      have hown22 := t22.row HK.out.1 (fun q hq h => by have := (HK.out.1.lt q hq).1; omega)
      have E22 := HK.out.2.2.1.step t22 (fun i _ h => Or.inl h)
      have s22d : QSt W w22.drew r A cA bs x.2 := s22.eff (Eff.of_below (S := fun _ => False) (Below.refl _ _).drew) (fun _ _ h => h) hrW
      have q2 := numq_step 0 1048576 hrW s22d
      rw [hy] at q2
      have r3 : w22.drew.cell? ⟨eb, 3, none⟩ = some u := x22.cell 3
      have hl9 : eb < w22.heap.size := x22.lt
      have HK2 := hid (And.intro hown22 (And.intro x22.drew E22.drew))
      clear s22 t22 s22d x22 hown22 E22
      go_wp2_with fail
      refine wp_region_any (by kernel_rfl) ?_
      change wpAny _ _ _ _ _ _ _ (World.drew _)
      refine any_take 0 ?_ rfl (by kernel_rfl) (by kernel_rfl) (by kernel_rfl) (fun _ _ _ h => h) (by rfl) ?_ ?_
      rotate_left
      · (intro w; go_simp; try with_reducible rfl)
      try simp only [Act.put, List.setIfInBounds_toArray, List.set_cons_zero, List.set_cons_succ]
      refine any_take 2 ?_ rfl (by kernel_rfl) (by kernel_rfl) (by kernel_rfl) (fun _ _ _ h => h) (by rfl) ?_ ?_
      rotate_left
      · (intro w; go_simp; try with_reducible rfl)
      try simp only [Act.put, List.setIfInBounds_toArray, List.set_cons_zero, List.set_cons_succ]
      refine any_take 3 ?_ rfl (by kernel_rfl) (by kernel_rfl) (by kernel_rfl) (fun _ _ _ h => h) (by rfl) ?_ ?_
      rotate_left
      · (intro w; go_simp; try with_reducible rfl)
      try simp only [Act.put, List.setIfInBounds_toArray, List.set_cons_zero, List.set_cons_succ]
      refine any_two 1 4 rfl rfl (by kernel_rfl) (by rfl) (by rfl) ?_ ?_
      · intro K hK
        go_simp
        refine hK _ _ ?_
        clear hK K
        try simp only [Act.put, List.setIfInBounds_toArray, List.set_cons_zero, List.set_cons_succ]
        refine any_one 4 rfl (by kernel_rfl) (by rfl) ?_
        intro K hK
        go_simp
        refine q2.mono ?_
        rintro e' w23 ⟨rfl, s23, t23⟩
        have x23 := t23.blk HK2.out.2.1 (fun h => hebr h.symm)
        have r3'' : w23.cell? ⟨eb, 3, none⟩ = some u := x23.cell 3
        have hl9' : eb < w23.heap.size := x23.lt
        have hown23 := t23.row (show w22.drew.ownsRow _ _ _ _ _ _ from HK2.out.1) (fun q hq h => by have := (HK.out.1.lt q hq).1; omega)
        have HN := hid (And.intro hown23 (And.intro x23 (And.intro s23 (HK2.out.2.2.step t23 (fun i _ h => Or.inl h)))))
        clear hown23 x23 s23 t23
        refine hK _ _ ?_
        clear hK K
        try simp only [Act.put, List.setIfInBounds_toArray, List.set_cons_zero, List.set_cons_succ]
        refine any_take 5 ?_ rfl (by kernel_rfl) (by kernel_rfl) (by kernel_rfl) (fun _ _ _ h => h) (by rfl) ?_ ?_
        rotate_left
        · (intro w; go_simp; try with_reducible rfl)
        try simp only [Act.put, List.setIfInBounds_toArray, List.set_cons_zero, List.set_cons_succ]
        refine any_one 6 rfl (by kernel_rfl) (by rfl) ?_
        intro K hK
        go_simp
        refine hK _ _ ?_
        clear hK K
        try simp only [Act.put, List.setIfInBounds_toArray, List.set_cons_zero, List.set_cons_succ]
        refine any_one 7 rfl (by kernel_rfl) (by rfl) ?_
        intro K hK
        refine wp_append_bid (.tmp 91) (.tmp 96) rfl rfl HN.out.1 (x.1, y.1) w23.heap.size rfl rfl rfl (by have := HSL.out; omega) HN.out.2.2.2.size ?_
        intro A10 c10 w24 hown24 he24
        have hx24 := he24.blk HN.out.2.1 (fun h => by have := (HN.out.1.lt _ h).1; omega)
        have r24 : w24.cell? ⟨eb, 3, none⟩ = some u := hx24.cell 3
        have hf24 : ∀ o, w24.frozen? ⟨eb, o, none⟩ = false := hx24.frozen
        have HP := hid (And.intro hown24 (And.intro he24 hx24))
        clear hown24 he24 hx24
        refine hK _ _ ?_
        clear hK K
        try simp only [Act.put, List.setIfInBounds_toArray, List.set_cons_zero, List.set_cons_succ]
        refine any_take 8 ?_ rfl (by kernel_rfl) (by kernel_rfl) (by kernel_rfl) (fun _ _ _ h => h) (by rfl) ?_ ?_
        rotate_left
        · (intro w; go_simp; try with_reducible rfl)
        try simp only [Act.put, List.setIfInBounds_toArray, List.set_cons_zero, List.set_cons_succ]
        refine any_one 9 rfl (by kernel_rfl) (by rfl) ?_
        intro K hK
        go_simp
        refine hK _ _ ?_
        clear hK K
        try simp only [Act.put, List.setIfInBounds_toArray, List.set_cons_zero, List.set_cons_succ]
        refine wpAny_done (by kernel_rfl) ?_ _
        go_wp2_with fail
        go_roundw
        case rel => exact bids_nextQ hebr2 heb20 hjl hrW HN.out.1 HN.out.2.2.1 HN.out.2.2.2 HK.out.2.2.2 HP.out.1 HP.out.2.1 HP.out.2.2
        case measure => simp [intOf]; omega
      · intro K hK
        go_simp
        refine q2.mono ?_
        rintro e' w23 ⟨rfl, s23, t23⟩
        have x23 := t23.blk HK2.out.2.1 (fun h => hebr h.symm)
        have r3'' : w23.cell? ⟨eb, 3, none⟩ = some u := x23.cell 3
        have hl9' : eb < w23.heap.size := x23.lt
        have hown23 := t23.row (show w22.drew.ownsRow _ _ _ _ _ _ from HK2.out.1) (fun q hq h => by have := (HK.out.1.lt q hq).1; omega)
        have HN := hid (And.intro hown23 (And.intro x23 (And.intro s23 (HK2.out.2.2.step t23 (fun i _ h => Or.inl h)))))
        clear hown23 x23 s23 t23
        refine hK _ _ ?_
        clear hK K
        try simp only [Act.put, List.setIfInBounds_toArray, List.set_cons_zero, List.set_cons_succ]
        refine any_take 5 ?_ rfl (by kernel_rfl) (by kernel_rfl) (by kernel_rfl) (fun _ _ _ h => h) (by rfl) ?_ ?_
        rotate_left
        · (intro w; go_simp; try with_reducible rfl)
        try simp only [Act.put, List.setIfInBounds_toArray, List.set_cons_zero, List.set_cons_succ]
        refine any_two 1 6 rfl rfl (by kernel_rfl) (by rfl) (by rfl) ?_ ?_
        · intro K hK
          go_simp
          refine hK _ _ ?_
          clear hK K
          try simp only [Act.put, List.setIfInBounds_toArray, List.set_cons_zero, List.set_cons_succ]
          refine any_one 6 rfl (by kernel_rfl) (by rfl) ?_
          intro K hK
          go_simp
          refine hK _ _ ?_
          clear hK K
          try simp only [Act.put, List.setIfInBounds_toArray, List.set_cons_zero, List.set_cons_succ]
          refine any_one 7 rfl (by kernel_rfl) (by rfl) ?_
          intro K hK
          refine wp_append_bid (.tmp 91) (.tmp 96) rfl rfl HN.out.1 (x.1, y.1) w23.heap.size rfl rfl rfl (by have := HSL.out; omega) HN.out.2.2.2.size ?_
          intro A10 c10 w24 hown24 he24
          have hx24 := he24.blk HN.out.2.1 (fun h => by have := (HN.out.1.lt _ h).1; omega)
          have r24 : w24.cell? ⟨eb, 3, none⟩ = some u := hx24.cell 3
          have hf24 : ∀ o, w24.frozen? ⟨eb, o, none⟩ = false := hx24.frozen
          have HP := hid (And.intro hown24 (And.intro he24 hx24))
          clear hown24 he24 hx24
          refine hK _ _ ?_
          clear hK K
          try simp only [Act.put, List.setIfInBounds_toArray, List.set_cons_zero, List.set_cons_succ]
          refine any_take 8 ?_ rfl (by kernel_rfl) (by kernel_rfl) (by kernel_rfl) (fun _ _ _ h => h) (by rfl) ?_ ?_
          rotate_left
          · (intro w; go_simp; try with_reducible rfl)
          try simp only [Act.put, List.setIfInBounds_toArray, List.set_cons_zero, List.set_cons_succ]
          refine any_one 9 rfl (by kernel_rfl) (by rfl) ?_
          intro K hK
          go_simp
          refine hK _ _ ?_
          clear hK K
          try simp only [Act.put, List.setIfInBounds_toArray, List.set_cons_zero, List.set_cons_succ]
          refine wpAny_done (by kernel_rfl) ?_ _
          go_wp2_with fail
          go_roundw
          case rel => exact bids_nextQ hebr2 heb20 hjl hrW HN.out.1 HN.out.2.2.1 HN.out.2.2.2 HK.out.2.2.2 HP.out.1 HP.out.2.1 HP.out.2.2
          case measure => simp [intOf]; omega
        · intro K hK
          go_simp
          refine hK _ _ ?_
          clear hK K
          try simp only [Act.put, List.setIfInBounds_toArray, List.set_cons_zero, List.set_cons_succ]
          refine any_one 1 rfl (by kernel_rfl) (by rfl) ?_
          intro K hK
          go_simp
          refine hK _ _ ?_
          clear hK K
          try simp only [Act.put, List.setIfInBounds_toArray, List.set_cons_zero, List.set_cons_succ]
          refine any_one 7 rfl (by kernel_rfl) (by rfl) ?_
          intro K hK
          refine wp_append_bid (.tmp 91) (.tmp 96) rfl rfl HN.out.1 (x.1, y.1) w23.heap.size rfl rfl rfl (by have := HSL.out; omega) HN.out.2.2.2.size ?_
          intro A10 c10 w24 hown24 he24
          have hx24 := he24.blk HN.out.2.1 (fun h => by have := (HN.out.1.lt _ h).1; omega)
          have r24 : w24.cell? ⟨eb, 3, none⟩ = some u := hx24.cell 3
          have hf24 : ∀ o, w24.frozen? ⟨eb, o, none⟩ = false := hx24.frozen
          have HP := hid (And.intro hown24 (And.intro he24 hx24))
          clear hown24 he24 hx24
          refine hK _ _ ?_
          clear hK K
          try simp only [Act.put, List.setIfInBounds_toArray, List.set_cons_zero, List.set_cons_succ]
          refine any_take 8 ?_ rfl (by kernel_rfl) (by kernel_rfl) (by kernel_rfl) (fun _ _ _ h => h) (by rfl) ?_ ?_
          rotate_left
          · (intro w; go_simp; try with_reducible rfl)
          try simp only [Act.put, List.setIfInBounds_toArray, List.set_cons_zero, List.set_cons_succ]
          refine any_one 9 rfl (by kernel_rfl) (by rfl) ?_
          intro K hK
          go_simp
          refine hK _ _ ?_
          clear hK K
          try simp only [Act.put, List.setIfInBounds_toArray, List.set_cons_zero, List.set_cons_succ]
          refine wpAny_done (by kernel_rfl) ?_ _
          go_wp2_with fail
          go_roundw
          case rel => exact bids_nextQ hebr2 heb20 hjl hrW HN.out.1 HN.out.2.2.1 HN.out.2.2.2 HK.out.2.2.2 HP.out.1 HP.out.2.1 HP.out.2.2
          case measure => simp [intOf]; omega
    case rest =>
    clear s20 x20
    unfold BidsFinQ at hcut
    obtain ⟨xs, ub, hxsl, hxs, s21, x21, hown21, e21⟩ := hcut
    generalize bidsR bs nbn nb.2 = XB at *
    obtain ⟨xs', sf⟩ := XB
    simp only at hxs s21 HB
    obtain ⟨bA, bc, rfl, _, _, hsb⟩ := Sl.row hown21
    obtain ⟨hS0, hx0, e0, h0⟩ := HS0.out
    have EALL := E20.trans e21
    have eN : Eff (fun q => q = r) wr wc := h0.step EALL (fun i hi h => by
      rcases h with h | h
      · exact h
      · have := HEB.out; omega)
    have hSN := hS0.eff eN (fun q hq h => by omega)
    have hxN := eN.blk hx0 (fun h => by omega)
    have eNN := e0.step eN (fun i _ h => .inl h)
    have hoff : ∀ q, bA = some q → w10.heap.size ≤ q.block ∧ q.block < wc.heap.size ∧ v.ownBlock ≠ some q.block := fun q hq => by
      have h1 := hown21.lt q.block (by rw [hq]; rfl)
      have h2 := HB.out.2.2.1
      refine ⟨by omega, h1.2, fun h => ?_⟩
      have := (h2 _ h).2
      omega
    have g0 : wc.cell? ⟨eb, 0, none⟩ = some (.int .i64 fl.1) := x21.cell 0
    have g1 : wc.cell? ⟨eb, 1, none⟩ = some (.int .i64 di.1) := x21.cell 1
    have g2 : wc.cell? ⟨eb, 2, none⟩ = some (.int .i64 ge.1) := x21.cell 2
    have g3 : wc.cell? ⟨eb, 3, none⟩ = some (.slice bA xs.length bc) := x21.cell 3
    have g4 : wc.cell? ⟨eb, 4, none⟩ = some (.int .i64 aw.1) := x21.cell 4
    have k4 : wc.cell? ⟨ob, 4, none⟩ = some v := hxN.cell 4
    have hwN : w10.heap.size ≤ wc.heap.size := eNN.size
    have hesl := HB.out.2.2.2
    have HZ := hid (And.intro hSN (And.intro hxN (And.intro eNN (And.intro hoff (And.intro hsb (And.intro s21 (And.intro hxs hxsl)))))))
    clear hSN hxN eNN hoff hsb s21 eN EALL hS0 hx0 e0 h0 x21 hown21 e21 hxs hxsl
    have hesl' : es.length ≤ 100000 := by omega
    go_wp2_with (at_builtin; refine wpList_append_ent rfl _ _ rfl rfl HZ.out.1 ⟨fl.1, di.1, ge.1, aw.1, xs, bA, bc⟩ wc.heap.size rfl rfl rfl hesl' hwN HZ.out.2.2.2.2.1 HZ.out.2.2.2.1 ?_; intro A30 c30 w30 hS30 he30; have hx30 := he30.blk HZ.out.2.1 (fun h => by have := (HZ.out.1.row.lt _ h).1; omega); have hf30 : ∀ o, w30.frozen? ⟨ob, o, none⟩ = false := hx30.frozen; have hg30 : w30.cell? ⟨ob, 4, none⟩ = some v := hx30.cell 4; have HY := hid (And.intro hS30 (And.intro he30 hx30)); clear hS30 he30 hx30)
    go_roundw
    case rel =>
      unfold EntsRelQ
      obtain ⟨hSN, hxN, eNN, hoff, hsb, s21, hxs, hxsl⟩ := HZ.out
      obtain ⟨hS30, he30, hx30⟩ := HY.out
      have hown : ∀ q, v.ownBlock = some q → w10.heap.size ≤ q := fun q hq => (hSN.row.lt q hq).1
      have e31 : Eff (· = ob) w30 (w30.setCell ⟨ob, 4, none⟩ (.slice A30 (es.length + 1) c30)) := (Eff.one ob w30).set 4 _
      have s30 : QSt W w30 r A cA bs sf := s21.eff he30 (fun q h2 h3 => by have := hown q h3; omega) hrW
      refine ⟨k + 1, _, es ++ [⟨fl.1, di.1, ge.1, aw.1, xs, bA, bc⟩], by omega, by go_num, ?_, ?_, ?_, hx30.set 4 _, hS30.eff e31 (fun q hq h => by omega), ?_, ?_⟩
      · rw [List.length_append, List.length_singleton]
        omega
      · unfold EntsQ
        rw [HB.out.1]
        intro h
        have h := hxs h
        rw [List.map_append, h]
        rfl
      · rw [HB.out.1]
        exact s30.set hobr hrW e31
      · intro y hy
        rcases List.mem_append.1 hy with hy | hy
        · exact HB.out.2.1 y hy
        · rw [List.mem_singleton] at hy
          rw [hy]
          show xs.length ≤ 16
          omega
      · exact (eNN.step he30 (fun i hi h3 => by have := hown i h3; omega)).step e31 (fun i _ h => .inr h)
    case measure => simp [intOf]; omega
  case rest =>
  clear s10 x10
  unfold EntsFinQ at hcut
  obtain ⟨v, es, hes, s11, hx11, hS, hb16, hel, e11⟩ := hcut
  obtain ⟨EA, ec, rfl, hse⟩ := hS.sl
  have g0 : wc.cell? ⟨ob, 0, none⟩ = some (.int .i64 a.1) := hx11.cell 0
  have g1 : wc.cell? ⟨ob, 1, none⟩ = some (.int .i64 b.1) := hx11.cell 1
  have g2 : wc.cell? ⟨ob, 2, none⟩ = some (.int .i64 c.1) := hx11.cell 2
  have g3 : wc.cell? ⟨ob, 3, none⟩ = some (.slice MA ms.length mc) := hx11.cell 3
  have g4 : wc.cell? ⟨ob, 4, none⟩ = some (.slice EA es.length ec) := hx11.cell 4
  have hne0 : w.heap.size < w10.heap.size := v0.lt
  have y0 := e11.blk v0 (fun h => by rcases h with h | h <;> omega)
  have hsm11 := hsm10.eff e11 (fun q hq h => by have := hMw10 q hq; rcases h with h | h <;> omega)
  have E11 : Eff (· = r) w wc := E10.step e11 (fun i hi h => by rcases h with h | h <;> omega)
  have HF := hid (And.intro hes (And.intro s11 (And.intro hx11 (And.intro hS (And.intro hb16 (And.intro hel (And.intro hse (And.intro hsm11 (And.intro E11 y0)))))))))
  clear hes s11 hx11 hS hb16 hse e11 y0 hsm11 E11
  go_wp2_with (refine wpList_store_agg rfl 53 _ _ rfl w.heap.size 0 rfl (ringL a.1 b.1 c.1 MA ms.length mc EA es.length ec) rfl _ 53 HF.out.2.2.2.2.2.2.2.2.2 (by simp) rfl ring_info ?_; intro w20 hx20 he20 hsz20)
  have HX20 : Hid (Blk w20 w.heap.size (ringL a.1 b.1 c.1 MA ms.length mc EA es.length ec) 53) := hx20
  refine ret_blk Tryd.results65 w.heap.size (ringL a.1 b.1 c.1 MA ms.length mc EA es.length ec) 53 _ (by rfl) HX20.out Tryd.underlying53 rfl ring_info (by rfl) ?_
  obtain ⟨hes, s11, hx11, hS, hb16, hel, hse, hsm11, E11, y0⟩ := HF.out
  refine ⟨a.1, b.1, c.1, MA, mc, ms, EA, es, ec, rfl, ?_, ⟨?_, ?_, ?_, ?_⟩, ?_, ?_, ?_⟩
  · rw [← HX.out]
    intro h
    have h : (entsR bs dn en e.2).2.2 = none := h
    have h1 := hes h
    have h2 := entsR_none h
    rw [← HE.out] at h2
    rw [HMN.out (numS_none h2), h1]
  · exact hsm11.eff he20 (fun q hq h => by have := hMw10 q hq; omega)
  · exact hse.eff he20 (fun q hq h => by have := (hS.row.lt q.block (by rw [hq]; rfl)).1; omega)
  · exact fun y hy => Sl.eff (hS.here y hy) he20 (fun q hq h => by have := (hS.off y hy q hq).1; omega)
  · have := HML.out
    exact ⟨by omega, by omega, fun y hy => by have := hb16 y hy; omega⟩
  · rw [← HX.out]
    exact s11.eff he20 (fun k h2 h3 => by omega) hrW
  · exact E11.step he20 (fun i hi h => by omega)
  · rintro q (hq | hq | ⟨y, hy, hq⟩)
    · have := (hMw10 q hq).2; omega
    · have := (hS.row.lt q.block (by rw [hq]; rfl)).1; omega
    · have := (hS.off y hy q hq).1; omega
end Go.Proofs.YtogcbiooddodlaaDoor
