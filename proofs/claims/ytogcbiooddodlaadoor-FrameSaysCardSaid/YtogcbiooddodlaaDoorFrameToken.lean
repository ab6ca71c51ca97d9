/- Frames: what token does. -/
import Derived.Test.YtogcbiooddodlaaDoorFrameEntry
namespace Go.Proofs.YtogcbiooddodlaaDoor
open Go.RowKit
set_option linter.unusedSimpArgs false

/-- A frame as a value. -/
abbrev frameV (kind fr tt life seen : Int) (out : Bool) (count founder hop : Int) (MA : Option Addr) (mn mc : Nat) (EA : Option Addr) (en ec : Nat) : Array Value := #[.int .i64 kind, .int .i64 fr, .int .i64 tt, .int .i64 life, .int .i64 seen, .bool out, .int .i64 count, .int .i64 founder, .int .i64 hop, .slice MA mn mc, .slice EA en ec]
abbrev frameL (kind fr tt life seen : Int) (out : Bool) (count founder hop : Int) (MA : Option Addr) (mn mc : Nat) (EA : Option Addr) (en ec : Nat) : List Value := [.int .i64 kind, .int .i64 fr, .int .i64 tt, .int .i64 life, .int .i64 seen, .bool out, .int .i64 count, .int .i64 founder, .int .i64 hop, .slice MA mn mc, .slice EA en ec]
abbrev ringL (count founder hop : Int) (MA : Option Addr) (mn mc : Nat) (EA : Option Addr) (en ec : Nat) : List Value := [.int .i64 count, .int .i64 founder, .int .i64 hop, .slice MA mn mc, .slice EA en ec]
/-- What is amiss with a token's own numbers. -/
def badTok (life seen : Int) (out : Bool) (count founder hop : Int) : Prop := life ≠ 0 ∨ seen ≠ 0 ∨ out = true ∨ validE count founder = false ∨ hop < 0 ∨ 1099511627776 < hop
instance (life seen : Int) (out : Bool) (count founder hop : Int) : Decidable (badTok life seen out count founder hop) := by unfold badTok; infer_instance
/-- What is amiss with a token. -/
def tokE (life seen : Int) (out : Bool) (count founder hop : Int) (ms : List Int) (es : List EntL) : Int := if life ≠ 0 ∨ seen ≠ 0 ∨ out = true then 103 else ringE count founder hop ms es
theorem tokE_bad {life seen : Int} {out : Bool} {count founder hop : Int} {ms : List Int} {es : List EntL} (h : badTok life seen out count founder hop) : tokE life seen out count founder hop ms es = 103 := by
  unfold tokE
  by_cases h1 : life ≠ 0 ∨ seen ≠ 0 ∨ out = true
  · rw [if_pos h1]
  · rw [if_neg h1, ringE, if_pos]
    unfold badTok at h
    simp only [not_or] at h1
    rcases h with h | h | h | h
    · exact absurd h h1.1
    · exact absurd h h1.2.1
    · exact absurd h h1.2.2
    · exact h
theorem tokE_good {life seen : Int} {out : Bool} {count founder hop : Int} {ms : List Int} {es : List EntL} (h : ¬ badTok life seen out count founder hop) : tokE life seen out count founder hop ms es =
    if 16 < ms.length ∨ ms.length = 0 ∨ 128 < es.length then 104 else if noCar ms then 103 else if rises ms = false then 111 else entsE ms es 0 es.length := by
  unfold badTok at h
  unfold tokE
  rw [if_neg (fun q => h (by rcases q with q | q | q; exact .inl q; exact .inr (.inl q); exact .inr (.inr (.inl q))))]
  unfold ringE
  rw [if_neg (fun q => h (.inr (.inr (.inr q))))]
theorem entsE_at {ms : List Int} {es : List EntL} : ∀ (n k j : Nat), j ≤ k → k < j + n → (∀ i, j ≤ i → i < k → entAt ms es i = 0) → entAt ms es k ≠ 0 → entsE ms es j n = entAt ms es k := by
  intro n
  induction n with
  | zero => intro k j h1 h2; omega
  | succ n ih =>
    intro k j h1 h2 h3 h4
    rw [entsE]
    by_cases h : j = k
    · subst h
      rw [if_neg h4]
    · rw [if_pos (h3 j (Nat.le_refl _) (by omega))]
      exact ih k (j + 1) (by omega) (by omega) (fun i hi => h3 i (by omega)) h4
theorem entsE_none {ms : List Int} {es : List EntL} : ∀ (n j : Nat), (∀ i, j ≤ i → i < j + n → entAt ms es i = 0) → entsE ms es j n = 0 := by
  intro n
  induction n with
  | zero => intro j h; rfl
  | succ n ih =>
    intro j h
    rw [entsE, if_pos (h j (Nat.le_refl _) (by omega))]
    exact ih (j + 1) (fun i h1 h2 => h i (by omega) (by omega))
theorem GivesErrB_zero (ad : Int → Addr) (w : World) : GivesErrB ad w 0 = fun e w' => e = .returned .nilIface ∧ Below w.heap.size w w' := rfl
theorem GivesErrB_ne {ad : Int → Addr} {w : World} {k : Int} (h : k ≠ 0) : GivesErrB ad w k = fun e w' => e = .returned (.iface 136 (.pointer (some (ad k)))) ∧ Below w.heap.size w w' := by
  unfold GivesErrB
  rw [errV_ne ad h]
def RiseI (W wr : World) (ms : List Int) (i : Value) : Prop := Below W.heap.size W wr ∧ ∃ k : Nat, 1 ≤ k ∧ (k = 1 ∨ k ≤ ms.length) ∧ i = .int .i64 k ∧ ∀ j, j + 1 < k → ms.getD j 0 < ms.getD (j + 1) 0
def EntsRel (W wr : World) (ms : List Int) (es : List EntL) (i : Value) : Prop := Below W.heap.size W wr ∧ ∃ k : Nat, k ≤ es.length ∧ i = .int .i64 k ∧ ∀ j, j < k → entAt ms es j = 0
set_option maxRecDepth 100000 in
set_option maxHeartbeats 2000000 in
theorem token_any {ad : Int → Addr} (kind fr tt life seen : Int) (out : Bool) (count founder hop : Int) (MA : Option Addr) (mc : Nat) (ms : List Int) (EA : Option Addr) (ec : Nat) (es : List EntL) (w : World) (hE : ErrsV ad w) (hR : RingIs w MA ms EA es) :
    Calls Tryd.prog 51 #[.agg (frameV kind fr tt life seen out count founder hop MA ms.length mc EA es.length ec)] w (GivesErrB ad w (tokE life seen out count founder hop ms es)) := by
  go_enter Tryd.func51, Tryd.ntmps51
  go_upto_region 2 with (fail)
  have hx1 := (Blk.new w (frameL kind fr tt life seen out count founder hop MA ms.length mc EA es.length ec) 64).alloc (.cells (ringV count founder hop MA ms.length mc EA es.length ec) 53)
  have hx2 := Blk.new (w.alloc (.cells (frameV kind fr tt life seen out count founder hop MA ms.length mc EA es.length ec) 64)) (ringL count founder hop MA ms.length mc EA es.length ec) 53
  rw [show (w.alloc (.cells (frameV kind fr tt life seen out count founder hop MA ms.length mc EA es.length ec) 64)).heap.size = w.heap.size + 1 from by simp] at hx2
  have hb3 : Below w.heap.size w ((w.alloc (.cells (frameV kind fr tt life seen out count founder hop MA ms.length mc EA es.length ec) 64)).alloc (.cells (ringV count founder hop MA ms.length mc EA es.length ec) 53)) := ((Below.refl _ _).alloc (Nat.le_refl _) _).alloc (by simp) _
  have hx1 : Blk ((w.alloc (.cells (frameV kind fr tt life seen out count founder hop MA ms.length mc EA es.length ec) 64)).alloc (.cells (ringV count founder hop MA ms.length mc EA es.length ec) 53)) w.heap.size (frameL kind fr tt life seen out count founder hop MA ms.length mc EA es.length ec) 64 := hx1
  have hx2 : Blk ((w.alloc (.cells (frameV kind fr tt life seen out count founder hop MA ms.length mc EA es.length ec) 64)).alloc (.cells (ringV count founder hop MA ms.length mc EA es.length ec) 53)) (w.heap.size + 1) (ringL count founder hop MA ms.length mc EA es.length ec) 53 := hx2
  generalize (w.alloc (.cells (frameV kind fr tt life seen out count founder hop MA ms.length mc EA es.length ec) 64)).alloc (.cells (ringV count founder hop MA ms.length mc EA es.length ec) 53) = w3 at *
  have f3 : w3.cell? ⟨w.heap.size, 3, none⟩ = some (.int .i64 life) := hx1.cell 3
  have f4 : w3.cell? ⟨w.heap.size, 4, none⟩ = some (.int .i64 seen) := hx1.cell 4
  have f5 : w3.cell? ⟨w.heap.size, 5, none⟩ = some (.bool out) := hx1.cell 5
  have r0 : w3.cell? ⟨w.heap.size + 1, 0, none⟩ = some (.int .i64 count) := hx2.cell 0
  have r1 : w3.cell? ⟨w.heap.size + 1, 1, none⟩ = some (.int .i64 founder) := hx2.cell 1
  have r2 : w3.cell? ⟨w.heap.size + 1, 2, none⟩ = some (.int .i64 hop) := hx2.cell 2
  have hv := epochValid_any count founder w3
  have HX := hid (And.intro hx1 (And.intro hx2 hb3))
  have HA := hid (And.intro hR hE)
  have hl2 := hx2.lt
  clear hx1 hx2 hb3 hR hE
  go_cut [9] (fun v wx => v = .bool (decide (badTok life seen out count founder hop)) ∧ Below w3.heap.size w3 wx)
  case first =>
    --<
    by_cases h1 : life = 0
    · subst h1
      by_cases h2 : seen = 0
      · subst h2
        cases out
        case false =>
          cases hve : validE count founder
          case false =>
            have HO := hid (decide_eq_true (show badTok 0 0 false count founder hop from .inr (.inr (.inr (.inl hve)))))
            rw [hve] at hv
            clear hve
            go_wp2_with fail
            refine hv.mono ?_
            rintro e w' ⟨rfl, hb4⟩
            go_wp2_with fail
            go_meet
            exact ⟨by rw [HO.out], hb4⟩
          case true =>
            rw [hve] at hv
            by_cases h4 : hop < 0
            · have HO := hid (decide_eq_true (show badTok 0 0 false count founder hop from .inr (.inr (.inr (.inr (.inl h4))))))
              clear hve
              go_wp2_with fail
              refine hv.mono ?_
              rintro e w' ⟨rfl, hb4⟩
              have r2' := (hb4.cell (lt_of_cell r2)).trans r2
              go_wp2_with fail
              go_meet
              exact ⟨by rw [HO.out], hb4⟩
            have h4' : 0 ≤ hop := by omega
            by_cases h5 : 1099511627776 < hop
            · have HO := hid (decide_eq_true (show badTok 0 0 false count founder hop from .inr (.inr (.inr (.inr (.inr h5))))))
              clear hve
              go_wp2_with fail
              refine hv.mono ?_
              rintro e w' ⟨rfl, hb4⟩
              have r2' := (hb4.cell (lt_of_cell r2)).trans r2
              go_wp2_with fail
              go_meet
              exact ⟨by rw [HO.out], hb4⟩
            have h5' : hop ≤ 1099511627776 := by omega
            have HO := hid (decide_eq_false (show ¬ badTok 0 0 false count founder hop from by unfold badTok; rintro (h | h | h | h | h | h); all_goals first | omega | exact absurd rfl h | (rw [hve] at h; cases h) | cases h))
            clear hve
            go_wp2_with fail
            refine hv.mono ?_
            rintro e w' ⟨rfl, hb4⟩
            have r2' := (hb4.cell (lt_of_cell r2)).trans r2
            go_wp2_with fail
            go_meet
            exact ⟨by rw [HO.out]; simp; omega, hb4⟩
        case true =>
          have HO := hid (decide_eq_true (show badTok 0 0 true count founder hop from .inr (.inr (.inl rfl))))
          go_wp2_with fail
          go_meet
          exact ⟨by rw [HO.out], Below.refl _ _⟩
      · have HO := hid (decide_eq_true (show badTok 0 seen out count founder hop from .inr (.inl h2)))
        have h2b : (seen != 0) = true := by simpa using h2
        clear h2
        go_wp2_with fail
        go_meet
        exact ⟨by rw [HO.out], Below.refl _ _⟩
    · have HO := hid (decide_eq_true (show badTok life seen out count founder hop from .inl h1))
      have h1b : (life != 0) = true := by simpa using h1
      clear h1
      go_wp2_with fail
      go_meet
      exact ⟨by rw [HO.out], Below.refl _ _⟩
    -->
  case rest =>
  obtain ⟨rfl, hb4⟩ := hcut
  have HW : Hid (Below w.heap.size w wc) := HX.out.2.2.trans (hb4.mono HX.out.2.2.size)
  have hE4 := HA.out.2.below HW.out
  have x2 := (Eff.of_below (S := fun _ => False) hb4).blk HX.out.2.1 (fun h => h)
  have HX4 := hid (And.intro x2 (HA.out.1.on HW.out))
  by_cases hB : badTok life seen out count founder hop
  · have HO := hid (tokE_bad (ms := ms) (es := es) hB)
    have g1 := hE4.range
    rw [decide_eq_true hB]
    clear hB
    go_wp2_with fail
    go_ret
    exact ⟨by rw [HO.out]; rfl, HW.out⟩
  rw [decide_eq_false hB]
  have HE := hid (tokE_good (ms := ms) (es := es) hB)
  clear hB hv f3 f4 f5 r0 r1 r2 hb4 x2 hl2 HX HA
  have r3 : wc.cell? ⟨w.heap.size + 1, 3, none⟩ = some (.slice MA ms.length mc) := HX4.out.1.cell 3
  have r4 : wc.cell? ⟨w.heap.size + 1, 4, none⟩ = some (.slice EA es.length ec) := HX4.out.1.cell 4
  have hlm : ms.length ≤ 100000 := HX4.out.2.lens.1
  have hle : es.length ≤ 100000 := HX4.out.2.lens.2.1
  have g2 := hE4.many
  by_cases hm : 16 < ms.length ∨ ms.length = 0 ∨ 128 < es.length
  · have HO := hid (HE.out.trans (if_pos hm))
    by_cases m1 : 16 < ms.length
    · have m1' : (16 : Int) < ms.length := by omega
      clear hm
      go_wp2_with fail
      go_ret
      exact ⟨by rw [HO.out]; rfl, HW.out⟩
    have m1' : (ms.length : Int) ≤ 16 := by omega
    by_cases m2 : ms.length = 0
    · have m2' : ((ms.length : Int) == 0) = true := by rw [beq_iff_eq]; omega
      clear hm
      go_wp2_with fail
      go_ret
      exact ⟨by rw [HO.out]; rfl, HW.out⟩
    have m2' : ((ms.length : Int) == 0) = false := by rw [beq_eq_false_iff_ne]; omega
    have m3' : (128 : Int) < es.length := by omega
    clear hm m1 m2
    go_wp2_with fail
    go_ret
    exact ⟨by rw [HO.out]; rfl, HW.out⟩
  have m1' : (ms.length : Int) ≤ 16 := by omega
  have m2' : ((ms.length : Int) == 0) = false := by rw [beq_eq_false_iff_ne]; omega
  have m3' : (es.length : Int) ≤ 128 := by omega
  have HE2 := hid (HE.out.trans (if_neg hm))
  have g1 := hE4.range
  clear HE hm g2
  have hcf := containsFunc_any MA mc ms wc HX4.out.2.mem (by omega)
  by_cases hnc : noCar ms = true
  · have HO := hid (HE2.out.trans (if_pos hnc))
    rw [hnc] at hcf
    clear hnc
    go_wp2_with fail
    refine hcf.mono ?_
    rintro e w' ⟨rfl, rfl⟩
    go_wp2_with fail
    go_ret
    exact ⟨by rw [HO.out]; rfl, HW.out⟩
  have HE3 := hid (HE2.out.trans (if_neg hnc))
  rw [show noCar ms = false by simpa using hnc] at hcf
  have HG := hid (And.intro hE4 (And.intro r3 r4))
  clear HE2 hnc g1 hE4
  go_wp2_with fail
  refine hcf.mono ?_
  rintro e w' ⟨rfl, rfl⟩
  go_wp2_with fail
  clear hcf m1' m2' m3' r3 r4
  go_loopw [4] (fun i wr => RiseI wc wr ms i) (fun i _ => ms.length - (intOf i).toNat)
  case atStart => exact ⟨Below.refl _ _, 1, by omega, .inl rfl, rfl, fun j h => by omega⟩
  case round =>
    obtain ⟨hbz, n, hn1, hn2, rfl, hrise⟩ := hrel
    have r3 : wr.cell? ⟨w.heap.size + 1, 3, none⟩ = some (.slice MA ms.length mc) := (hbz.cell (lt_of_cell HG.out.2.1)).trans HG.out.2.1
    have HW6 := hid (HW.out.trans (hbz.mono HW.out.size))
    by_cases hlt2 : n < ms.length
    · obtain ⟨p, rfl⟩ : ∃ p, n = p + 1 := ⟨n - 1, by omega⟩
      obtain ⟨b1, o1, hMA, hb1w, hc1⟩ := HX4.out.2.mem.at (by rw [List.length_map]; omega)
      obtain rfl : MA = _ := hMA
      have d0 : wr.cell? ⟨b1, o1 + p, none⟩ = some (.int .i64 (ms.getD p 0)) := (hbz.cell (p := ⟨b1, o1 + p, none⟩) hb1w).trans ((hc1 p (by rw [List.length_map]; omega)).trans (getD_int (by omega)))
      have d1 : wr.cell? ⟨b1, o1 + (p + 1), none⟩ = some (.int .i64 (ms.getD (p + 1) 0)) := (hbz.cell (p := ⟨b1, o1 + (p + 1), none⟩) hb1w).trans ((hc1 (p + 1) (by rw [List.length_map]; omega)).trans (getD_int (by omega)))
      have g3 := (hbz.cell (lt_of_cell HG.out.1.twice)).trans HG.out.1.twice
      obtain ⟨x, gx⟩ : ∃ x, ms.getD p 0 = x := ⟨_, rfl⟩
      obtain ⟨y, gy⟩ : ∃ y, ms.getD (p + 1) 0 = y := ⟨_, rfl⟩
      rw [gx] at d0
      rw [gy] at d1
      have hwr : IntKind.i64.wrap (p : Int) = p := by rw [IntKind.wrap_i64] <;> omega
      have hp1 : (p : Int) + 1 < ms.length := by omega
      have hp2 : ((p + 1 : Nat) : Int) < ms.length := by omega
      have hp0 : (p : Int) < ms.length := by omega
      clear hc1
      by_cases hxy : x < y
      · have HR : Hid (∀ j, j + 1 < p + 1 + 1 → ms.getD j 0 < ms.getD (j + 1) 0) := by
          intro j hj
          by_cases h : j = p
          · rw [h, gx, gy]; exact hxy
          · exact hrise j (by omega)
        clear gx gy hrise
        go_wp2_with fail
        go_quiet (fail)
        go_wp2_with fail
        go_roundw
        case rel => exact ⟨below_drewN hbz _, p + 1 + 1, by omega, by omega, by go_num, HR.out⟩
        case measure => simp [intOf]; omega
      · have hyx : y ≤ x := by omega
        have HR : Hid (rises ms = false) := by
          rw [Hid, ← Bool.not_eq_true, rises_iff]
          intro h
          have := h p hlt2
          rw [gx, gy] at this
          exact hxy this
        clear gx gy hrise hxy
        go_wp2_with fail
        go_quiet (fail)
        go_wp2_with fail
        go_ret
        exact ⟨by rw [HE3.out, if_pos HR.out]; rfl, below_drewN HW6.out _⟩
    · have hlt3 : (ms.length : Int) ≤ n := by omega
      have HR : Hid (¬ rises ms = false) := by
        rw [Hid, Bool.not_eq_false, rises_iff]
        intro j hj
        exact hrise j (by omega)
      have HE4 := hid (HE3.out.trans (if_neg HR.out))
      have r4 : wr.cell? ⟨w.heap.size + 1, 4, none⟩ = some (.slice EA es.length ec) := (hbz.cell (lt_of_cell HG.out.2.2)).trans HG.out.2.2
      have HX5 := hid (And.intro ((Eff.of_below (S := fun _ => False) hbz).blk HX4.out.1 (fun h => h)) (And.intro (HX4.out.2.on hbz) (HG.out.1.below hbz)))
      clear hrise HE3 HR
      go_wp2_with fail
      obtain ⟨w5, e5⟩ : ∃ w5, w5 = wr := ⟨_, rfl⟩
      subst e5
      clear r3 r4
      go_loopw [85] (fun i wr => EntsRel w5 wr ms es i) (fun i _ => es.length - (intOf i).toNat)
      case atStart => exact ⟨Below.refl _ _, 0, by omega, rfl, fun j h => by omega⟩
      case round =>
        obtain ⟨hbe, k, hk, rfl, hzero⟩ := hrel
        have HW7 := hid (HW6.out.trans (hbe.mono HW6.out.size))
        by_cases hke : k < es.length
        · have hx5 := (Eff.of_below (S := fun _ => False) hbe).blk HX5.out.1 (fun h => h)
          have c0 : wr.cell? ⟨w.heap.size + 1, 0, none⟩ = some (.int .i64 count) := hx5.cell 0
          have c1 : wr.cell? ⟨w.heap.size + 1, 1, none⟩ = some (.int .i64 founder) := hx5.cell 1
          have c2 : wr.cell? ⟨w.heap.size + 1, 2, none⟩ = some (.int .i64 hop) := hx5.cell 2
          have c3 : wr.cell? ⟨w.heap.size + 1, 3, none⟩ = some (.slice MA ms.length mc) := hx5.cell 3
          have c4 : wr.cell? ⟨w.heap.size + 1, 4, none⟩ = some (.slice EA es.length ec) := hx5.cell 4
          have hen := entry_any (ad := ad) count founder hop MA mc ms EA ec es k hke wr (HX5.out.2.2.below hbe) (HX5.out.2.1.on hbe)
          have hke' : (k : Int) < es.length := by omega
          have HZ := hid hzero
          clear hx5 hzero
          by_cases h0 : entAt ms es k = 0
          · rw [h0, GivesErrB_zero] at hen
            have HK : Hid (∀ j, j < k + 1 → entAt ms es j = 0) := by
              intro j hj
              by_cases h : j = k
              · rw [h, h0]
              · exact HZ.out j (by omega)
            clear h0
            go_wp2_with fail
            refine hen.mono ?_
            rintro e w' ⟨rfl, hb6⟩
            have HB7 := hid (hbe.trans (hb6.mono hbe.size))
            go_wp2_with fail
            go_roundw
            case rel => exact ⟨HB7.out, k + 1, by omega, by go_num, HK.out⟩
            case measure => simp [intOf]; omega
          · have HK := hid (HE4.out.trans (entsE_at es.length k 0 (Nat.zero_le _) (by omega) (fun i _ h => HZ.out i h) h0))
            have HK0 := hid h0
            rw [GivesErrB_ne h0] at hen
            generalize entAt ms es k = E at *
            clear h0
            go_wp2_with fail
            refine hen.mono ?_
            rintro e w' ⟨rfl, hb6⟩
            have HB7 := hid (HW7.out.trans (hb6.mono HW7.out.size))
            go_wp2_with fail
            go_ret
            exact ⟨by rw [HK.out, errV_ne ad HK0.out]; rfl, HB7.out⟩
        · have hke' : (es.length : Int) ≤ k := by omega
          have HK := hid (HE4.out.trans (entsE_none es.length 0 (fun i _ h => hzero i (by omega))))
          clear hzero
          go_wp2_with fail
          go_ret
          exact ⟨by rw [HK.out]; rfl, HW7.out⟩
end Go.Proofs.YtogcbiooddodlaaDoor
