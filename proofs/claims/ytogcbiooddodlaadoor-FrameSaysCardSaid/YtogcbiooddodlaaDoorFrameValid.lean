/- Frames: what Valid does with any frame. -/
import Derived.Test.YtogcbiooddodlaaDoorFrameToken
namespace Go.Proofs.YtogcbiooddodlaaDoor
open Go.RowKit
set_option linter.unusedSimpArgs false

def zeroRing (count founder hop : Int) (mn en : Nat) : Prop := count = 0 ∧ founder = 0 ∧ hop = 0 ∧ mn = 0 ∧ en = 0
instance (count founder hop : Int) (mn en : Nat) : Decidable (zeroRing count founder hop mn en) := by unfold zeroRing; infer_instance
set_option maxRecDepth 100000 in
set_option maxHeartbeats 1600000 in
theorem zeroV_any (count founder hop : Int) (MA : Option Addr) (mn mc : Nat) (EA : Option Addr) (en ec : Nat) (w : World) :
    Calls Tryd.prog 53 #[.agg (ringV count founder hop MA mn mc EA en ec)] w (SaysB w (decide (zeroRing count founder hop mn en))) := by
  have hb := (Below.refl w.heap.size w).alloc (Nat.le_refl _) (.cells (ringV count founder hop MA mn mc EA en ec) 53)
  by_cases h0 : count = 0
  · subst h0
    by_cases h1 : founder = 0
    · subst h1
      by_cases h2 : hop = 0
      · subst h2
        by_cases h3 : mn = 0
        · subst h3
          by_cases h4 : en = 0
          · subst h4
            rw [show decide (zeroRing 0 0 0 0 0) = true from rfl]
            go_enter Tryd.func53, Tryd.ntmps53
            go_wp2_with fail
            go_ret
            exact ⟨rfl, hb⟩
          · have HO := hid (decide_eq_false (show ¬ zeroRing 0 0 0 0 en from fun q => h4 q.2.2.2.2))
            have h4' : ((en : Int) == 0) = false := by rw [beq_eq_false_iff_ne]; omega
            clear h4
            go_enter Tryd.func53, Tryd.ntmps53
            go_wp2_with fail
            go_ret
            exact ⟨by rw [HO.out]; simp [h4'], hb⟩
        · have HO := hid (decide_eq_false (show ¬ zeroRing 0 0 0 mn en from fun q => h3 q.2.2.2.1))
          have h3' : ((mn : Int) == 0) = false := by rw [beq_eq_false_iff_ne]; omega
          clear h3
          go_enter Tryd.func53, Tryd.ntmps53
          go_wp2_with fail
          go_ret
          exact ⟨by rw [HO.out]; simp [h3'], hb⟩
      · have HO := hid (decide_eq_false (show ¬ zeroRing 0 0 hop mn en from fun q => h2 q.2.2.1))
        have h2' : (hop == 0) = false := by rw [beq_eq_false_iff_ne]; omega
        clear h2
        go_enter Tryd.func53, Tryd.ntmps53
        go_wp2_with fail
        go_ret
        exact ⟨by rw [HO.out]; simp [h2'], hb⟩
    · have HO := hid (decide_eq_false (show ¬ zeroRing 0 founder hop mn en from fun q => h1 q.2.1))
      have h1' : (founder == 0) = false := by rw [beq_eq_false_iff_ne]; omega
      clear h1
      go_enter Tryd.func53, Tryd.ntmps53
      go_wp2_with fail
      go_ret
      exact ⟨by rw [HO.out]; simp [h1'], hb⟩
  · have HO := hid (decide_eq_false (show ¬ zeroRing count founder hop mn en from fun q => h0 q.1))
    have h0' : (count == 0) = false := by rw [beq_eq_false_iff_ne]; omega
    clear h0
    go_enter Tryd.func53, Tryd.ntmps53
    go_wp2_with fail
    go_ret
    exact ⟨by rw [HO.out]; simp [h0'], hb⟩
def numOk (n : Int) : Prop := 0 ≤ n ∧ n ≤ 281474976710655
instance (n : Int) : Decidable (numOk n) := by unfold numOk; infer_instance
/-- What is amiss with a frame. -/
def frameE (kind fr tt life seen : Int) (out : Bool) (count founder hop : Int) (ms : List Int) (es : List EntL) : Int :=
  if kind ≠ 1 ∧ kind ≠ 2 then 107
  else if isCar fr = false ∨ isCar tt = false then 103
  else if kind = 2 then tokE life seen out count founder hop ms es
  else if ¬ numOk life ∨ ¬ numOk seen ∨ ¬ zeroRing count founder hop ms.length es.length then 103 else 0
set_option maxRecDepth 100000 in
set_option maxHeartbeats 4000000 in
theorem validF_any {ad : Int → Addr} (kind fr tt life seen : Int) (out : Bool) (count founder hop : Int) (MA : Option Addr) (mc : Nat) (ms : List Int) (EA : Option Addr) (ec : Nat) (es : List EntL) (w : World) (hE : ErrsV ad w) (hR : RingIs w MA ms EA es) :
    Calls Tryd.prog 32 #[.agg (frameV kind fr tt life seen out count founder hop MA ms.length mc EA es.length ec)] w (GivesErrB ad w (frameE kind fr tt life seen out count founder hop ms es)) := by
  have hb1 : Below w.heap.size w (w.alloc (.cells (frameV kind fr tt life seen out count founder hop MA ms.length mc EA es.length ec) 64)) := (Below.refl _ _).alloc (Nat.le_refl _) _
  have g1 := hE.range
  have g2 := hE.kind
  have l1 := lt_of_cell g1
  have l2 := lt_of_cell g2
  have c1 := fun w => carB_any fr w
  have c2 := fun w => carB_any tt w
  have n1 := fun w => numB_any life w
  have n2 := fun w => numB_any seen w
  have z1 := fun w => zeroV_any count founder hop MA ms.length mc EA es.length ec w
  have ht := fun w hE hR => token_any (ad := ad) kind fr tt life seen out count founder hop MA mc ms EA ec es w hE hR
  have HA := hid (And.intro hE hR)
  clear hE hR
  go_enter Tryd.func32, Tryd.ntmps32
  by_cases hk : kind ≠ 1 ∧ kind ≠ 2
  · have HO := hid (show frameE kind fr tt life seen out count founder hop ms es = 107 from if_pos hk)
    have k1 : (kind != 1) = true := by simpa using hk.1
    have k2 : (kind != 2) = true := by simpa using hk.2
    clear hk
    go_wp2_with fail
    go_ret
    exact ⟨by rw [HO.out]; rfl, hb1⟩
  have HK : Hid (frameE kind fr tt life seen out count founder hop ms es = if isCar fr = false ∨ isCar tt = false then 103 else if kind = 2 then tokE life seen out count founder hop ms es else if ¬ numOk life ∨ ¬ numOk seen ∨ ¬ zeroRing count founder hop ms.length es.length then 103 else 0) := if_neg hk
  have hk2 : kind = 1 ∨ kind = 2 := by omega
  clear hk
  cases hf : isCar fr
  · have HO := hid (HK.out.trans (if_pos (.inl hf)))
    clear HK
    rw [hf] at c1
    clear hf
    rcases hk2 with rfl | rfl
    all_goals
      go_wp2_with fail
      refine (c1 _).mono ?_
      rintro e w' ⟨rfl, rfl⟩
      go_wp2_with fail
      go_ret
      exact ⟨by rw [HO.out]; rfl, hb1⟩
  rw [hf] at c1
  cases hto : isCar tt
  · have HO := hid (HK.out.trans (if_pos (.inr hto)))
    clear HK
    rw [hto] at c2
    clear hto hf
    rcases hk2 with rfl | rfl
    all_goals
      go_wp2_with fail
      refine (c1 _).mono ?_
      rintro e w' ⟨rfl, rfl⟩
      go_wp2_with fail
      refine (c2 _).mono ?_
      rintro e w' ⟨rfl, rfl⟩
      go_wp2_with fail
      go_ret
      exact ⟨by rw [HO.out]; rfl, hb1⟩
  rw [hto] at c2
  have HK2 := hid (HK.out.trans (if_neg (show ¬ (isCar fr = false ∨ isCar tt = false) from by rw [hf, hto]; simp)))
  clear HK hf hto
  rcases hk2 with rfl | rfl
  case inr =>
    have HO := hid (HK2.out.trans (if_pos rfl))
    clear HK2
    have htk := ht _ (HA.out.1.below hb1) (HA.out.2.on hb1)
    clear ht
    go_wp2_with fail
    refine (c1 _).mono ?_
    rintro e w' ⟨rfl, rfl⟩
    go_wp2_with fail
    refine (c2 _).mono ?_
    rintro e w' ⟨rfl, rfl⟩
    go_wp2_with fail
    refine htk.mono ?_
    rintro e w' ⟨rfl, hb2⟩
    have hb3 := hb1.trans (hb2.mono hb1.size)
    go_wp2_with fail
    go_ret
    exact ⟨by rw [HO.out]; rfl, hb3⟩
  have HO := hid (HK2.out.trans (if_neg (show ¬ (1 : Int) = 2 by decide)))
  clear HK2 ht
  go_wp2_with fail
  refine (c1 _).mono ?_
  rintro e w' ⟨rfl, rfl⟩
  go_wp2_with fail
  refine (c2 _).mono ?_
  rintro e w' ⟨rfl, rfl⟩
  go_wp2_with fail
  refine (n1 _).mono ?_
  rintro e w' ⟨rfl, rfl⟩
  by_cases hl : numOk life
  · rw [show decide (0 ≤ life ∧ life ≤ 281474976710655) = true from decide_eq_true hl]
    go_wp2_with fail
    refine (n2 _).mono ?_
    rintro e w' ⟨rfl, rfl⟩
    by_cases hs : numOk seen
    · rw [show decide (0 ≤ seen ∧ seen ≤ 281474976710655) = true from decide_eq_true hs]
      go_wp2_with fail
      refine (z1 _).mono ?_
      rintro e w2 ⟨rfl, hb2⟩
      have hb3 := hb1.trans (hb2.mono hb1.size)
      have g2 := (hb3.cell (p := ⟨0, 0, none⟩) l1).trans g1
      by_cases hh : zeroRing count founder hop ms.length es.length
      · have HE := hid (HO.out.trans (if_neg (show ¬ (¬ numOk life ∨ ¬ numOk seen ∨ ¬ zeroRing count founder hop ms.length es.length) from fun q => q.elim (fun q => q hl) (fun q => q.elim (fun q => q hs) (fun q => q hh)))))
        rw [decide_eq_true hh]
        clear hh hl hs
        go_wp2_with fail
        go_ret
        exact ⟨by rw [HE.out]; rfl, hb3⟩
      · have HE := hid (HO.out.trans (if_pos (.inr (.inr hh))))
        rw [decide_eq_false hh]
        clear hh hl hs
        go_wp2_with fail
        go_ret
        exact ⟨by rw [HE.out]; rfl, hb3⟩
    · have HE := hid (HO.out.trans (if_pos (.inr (.inl hs))))
      rw [show decide (0 ≤ seen ∧ seen ≤ 281474976710655) = false from decide_eq_false hs]
      clear hs hl
      go_wp2_with fail
      go_ret
      exact ⟨by rw [HE.out]; rfl, hb1⟩
  · have HE := hid (HO.out.trans (if_pos (.inl hl)))
    rw [show decide (0 ≤ life ∧ life ≤ 281474976710655) = false from decide_eq_false hl]
    clear hl
    go_wp2_with fail
    go_ret
    exact ⟨by rw [HE.out]; rfl, hb1⟩
end Go.Proofs.YtogcbiooddodlaaDoor
