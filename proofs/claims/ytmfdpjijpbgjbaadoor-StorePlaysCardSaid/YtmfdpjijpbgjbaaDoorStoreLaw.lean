/- A record that is kept: what a save leaves. No program in sight. -/
import Derived.Test.YtmfdpjijpbgjbaaDoorStoreSave
namespace Go.Proofs.YtmfdpjijpbgjbaaDoor
open Go.RowKit

def setL (bs : List Int) (l : List (Int × Int)) : List Int := l.foldl (fun b p => b.set p.1.toNat p.2) bs
theorem setL_len (l : List (Int × Int)) : ∀ bs : List Int, (setL bs l).length = bs.length := by
  induction l with
  | nil => intro bs; rfl
  | cons p l ih => intro bs; rw [setL, List.foldl_cons, ← setL, ih, List.length_set]
theorem setL_append (bs : List Int) (l m : List (Int × Int)) : setL bs (l ++ m) = setL (setL bs l) m := by rw [setL, List.foldl_append]; rfl
theorem setL_b {bs : List Int} (h : IsB bs) {l : List (Int × Int)} (hl : ∀ p ∈ l, 0 ≤ p.2 ∧ p.2 ≤ 255) : IsB (setL bs l) := by
  induction l generalizing bs with
  | nil => exact h
  | cons p l ih =>
    rw [setL, List.foldl_cons, ← setL]
    refine ih (fun x hx => ?_) (fun q hq => hl q (by simp [hq]))
    rcases List.mem_or_eq_of_mem_set hx with hx | rfl
    · exact h x hx
    · exact hl p (by simp)
/-- A memory with power, its fuse, the bytes. -/
theorem putsL_fuse (l : List (Int × Int)) : ∀ c : Cl, c.down = false → 0 ≤ c.fuse → (∀ p ∈ l, c.is p.1 = true) →
    putsL c l = if 0 < c.fuse ∧ c.fuse ≤ l.length then (⟨setL c.bs (l.take (c.fuse.toNat - 1)), 0, true, c.writes + (c.fuse - 1)⟩, 105)
      else (⟨setL c.bs l, if 0 < c.fuse then c.fuse - l.length else 0, false, c.writes + l.length⟩, 0) := by
  induction l with
  | nil =>
    rintro ⟨bs, f, d, ws⟩ hd h0 _
    obtain rfl : d = false := hd
    have h0 : 0 ≤ f := h0
    dsimp only
    rw [putsL, if_neg (fun h => by have h1 := h.1; have h2 := h.2; simp only [List.length_nil] at h2; omega)]
    by_cases hf : 0 < f
    · simp [setL, hf]
    · have : f = 0 := by omega
      simp [setL, this]
  | cons p l ih =>
    rintro ⟨bs, f, d, ws⟩ hd h0 hin
    obtain rfl : d = false := hd
    have h0 : 0 ≤ f := h0
    dsimp only
    obtain ⟨i, x⟩ := p
    have hi : Cl.is ⟨bs, f, false, ws⟩ i = true := hin (i, x) (by simp)
    have hif : ∀ (f' : Int) (d' : Bool) (w' : Int), Cl.is ⟨bs, f', d', w'⟩ i = true := fun _ _ _ => hi
    by_cases h1 : f = 1
    · subst h1
      rw [if_pos ⟨by simp, by simp only [List.length_cons]; omega⟩]
      simp [putsL, Cl.putE, Cl.put, Cl.gone, setL]
    · have hg : Cl.gone ⟨bs, f, false, ws⟩ = ⟨bs, if 0 < f then f - 1 else f, false, ws⟩ := by
        unfold Cl.gone
        by_cases hf : 0 < f
        · simp [hf]; omega
        · simp [hf]
      have he : Cl.putE ⟨bs, f, false, ws⟩ i = 0 := by simp only [Cl.putE, hg]; simp [hi]
      have hp : Cl.put ⟨bs, f, false, ws⟩ i x = ⟨bs.set i.toNat x, if 0 < f then f - 1 else f, false, ws + 1⟩ := by simp only [Cl.put, hg]; simp [hi]
      rw [putsL, if_pos he, hp, ih _ rfl (by dsimp only; split <;> omega) (fun q hq => by
        have := hin q (by simp [hq])
        simp only [Cl.is, List.length_set] at this ⊢
        exact this)]
      simp only [List.length_cons]
      by_cases hf : 0 < f
      · simp only [if_pos hf]
        by_cases hfl : f ≤ l.length + 1
        · rw [if_pos ⟨by omega, by omega⟩, if_pos ⟨hf, by omega⟩]
          have e1 : f.toNat - 1 = (f - 1).toNat - 1 + 1 := by omega
          rw [e1, List.take_succ_cons, setL, setL, List.foldl_cons]
          simp only [Prod.mk.injEq, Cl.mk.injEq, true_and, and_true]
          omega
        · rw [if_neg (show ¬ (0 < f - 1 ∧ f - 1 ≤ (l.length : Int)) by omega), if_neg (show ¬ (0 < f ∧ f ≤ ((l.length + 1 : Nat) : Int)) by omega), if_pos (show 0 < f - 1 by omega), setL, setL, List.foldl_cons]
          simp only [Prod.mk.injEq, Cl.mk.injEq, true_and, and_true]
          omega
      · have hz : f = 0 := by omega
        subst hz
        simp [setL]
        omega

theorem getD_set (bs : List Int) (i j : Nat) (x : Int) (hi : i < bs.length) : (bs.set i x).getD j 0 = if j = i then x else bs.getD j 0 := by
  simp only [List.getD_eq_getElem?_getD]
  by_cases h : j = i
  · subst h; rw [if_pos rfl, List.getElem?_set_self hi]; rfl
  · rw [if_neg h, List.getElem?_set_ne (fun e => h e.symm)]
/-- What the first m writes leave. -/
theorem setL_wrAt (k : Nat) (xs bs : List Int) (hl : k * 13 + xs.length ≤ bs.length) : ∀ m, m ≤ xs.length → ∀ j, (setL bs ((wrAt k xs).take m)).getD j 0 = if k * 13 ≤ j ∧ j < k * 13 + m then xs.getD (j - k * 13) 0 else bs.getD j 0 := by
  intro m
  induction m with
  | zero => intro _ j; rw [List.take_zero, if_neg (by omega)]; rfl
  | succ m ih =>
    intro hm j
    have hlt : m < (wrAt k xs).length := by rw [wrAt_len]; omega
    have hget : (wrAt k xs)[m] = (((k * 13 + m : Nat) : Int), xs.getD m 0) := by simp [wrAt]
    rw [List.take_succ_eq_append_getElem hlt, setL_append, hget, setL, List.foldl_cons, List.foldl_nil, Int.toNat_natCast, getD_set _ _ _ _ (by rw [setL_len]; omega)]
    by_cases h : j = k * 13 + m
    · rw [if_pos h, if_pos (by omega), h, show k * 13 + m - k * 13 = m from by omega]
    · rw [if_neg h, ih (by omega)]
      by_cases h2 : k * 13 ≤ j ∧ j < k * 13 + m
      · rw [if_pos h2, if_pos (by omega)]
      · rw [if_neg h2, if_neg (by omega)]

theorem numK_congr {bs cs : List Int} {p q : Nat} : ∀ k, (∀ i, i < k → bs.getD (p + i) 0 = cs.getD (q + i) 0) → numK bs p k = numK cs q k := by
  intro k
  induction k with
  | zero => intro _; rfl
  | succ k ih => intro h; rw [numK, numK, ih (fun i hi => h i (by omega)), h k (by omega)]
theorem six_congr {bs cs : List Int} {p q : Nat} (h : ∀ i, i < 6 → bs.getD (p + i) 0 = cs.getD (q + i) 0) : six bs p = six cs q := numK_congr 6 h
theorem slot_same {bs cs : List Int} {k : Nat} (h : ∀ j, 13 * k ≤ j → j < 13 * k + 13 → cs.getD j 0 = bs.getD j 0) : slotOf cs k = slotOf bs k := by
  have e1 : six cs (13 * k + 1) = six bs (13 * k + 1) := six_congr (fun i hi => h _ (by omega) (by omega))
  have e2 : six cs (13 * k + 7) = six bs (13 * k + 7) := six_congr (fun i hi => h _ (by omega) (by omega))
  rw [slotOf, slotOf, h (13 * k) (by omega) (by omega), e1, e2]
theorem six_b6 {n : Int} (h0 : 0 ≤ n) (h1 : n < 281474976710656) : six (b6 n) 0 = n := by
  have e : b6 n = [b6At n 0, b6At n 1, b6At n 2, b6At n 3, b6At n 4, b6At n 5] := rfl
  rw [e]
  simp [six, numK, b6At]
  omega
theorem six_slot1 (r : Int × Int) : six (slotB r) 1 = six (b6 r.1) 0 := by
  refine six_congr fun i hi => ?_
  have hl : (b6 r.1).length = 6 := b6k_len _ _
  rw [slotB, List.getD_eq_getElem?_getD, List.getElem?_append_left (by simp [hl]; omega), List.getElem?_append_right (by simp)]
  simp [List.getD_eq_getElem?_getD]
theorem six_slot7 (r : Int × Int) : six (slotB r) 7 = six (b6 r.2) 0 := by
  refine six_congr fun i hi => ?_
  have hl : (b6 r.1).length = 6 := b6k_len _ _
  rw [slotB, List.getD_eq_getElem?_getD, List.getElem?_append_right (by simp [hl])]
  simp [List.getD_eq_getElem?_getD, hl]
theorem slotB_zero (r : Int × Int) : (slotB r).getD 0 0 = 0 := rfl
theorem saveL_len (k : Nat) (r : Int × Int) : (saveL k r).length = 14 := by rw [saveL, List.length_append, wrAt_len, slotB_len]; rfl
theorem saveL_take (k : Nat) (r : Int × Int) {m : Nat} (hm : m ≤ 13) : (saveL k r).take m = (wrAt k (slotB r)).take m := by
  rw [saveL, List.take_append_of_le_length (by rw [wrAt_len, slotB_len]; exact hm)]
theorem part_at (k : Nat) (r : Int × Int) {bs : List Int} (hl : k * 13 + 13 ≤ bs.length) {m : Nat} (hm : m ≤ 13) (j : Nat) :
    (setL bs ((saveL k r).take m)).getD j 0 = if k * 13 ≤ j ∧ j < k * 13 + m then (slotB r).getD (j - k * 13) 0 else bs.getD j 0 := by
  rw [saveL_take k r hm, setL_wrAt k _ _ (by rw [slotB_len]; exact hl) m (by rw [slotB_len]; exact hm)]
theorem full_at (k : Nat) (r : Int × Int) {bs : List Int} (hl : k * 13 + 13 ≤ bs.length) (j : Nat) :
    (setL bs (saveL k r)).getD j 0 = if j = k * 13 then 1 else if k * 13 ≤ j ∧ j < k * 13 + 13 then (slotB r).getD (j - k * 13) 0 else bs.getD j 0 := by
  have e : wrAt k (slotB r) = (saveL k r).take 13 := by rw [saveL_take k r (Nat.le_refl _), List.take_of_length_le (by rw [wrAt_len, slotB_len]; exact Nat.le_refl _)]
  rw [saveL, setL_append, e, setL, List.foldl_cons, List.foldl_nil, Int.toNat_natCast, getD_set _ _ _ _ (by rw [setL_len]; omega), part_at k r hl (Nat.le_refl _)]
theorem full_slot (k : Nat) {r : Int × Int} (hr : RecOk r) {bs : List Int} (hl : k * 13 + 13 ≤ bs.length) : slotOf (setL bs (saveL k r)) k = some r := by
  have e0 : (setL bs (saveL k r)).getD (13 * k) 0 = 1 := by rw [full_at k r hl, if_pos (by omega)]
  have e1 : six (setL bs (saveL k r)) (13 * k + 1) = r.1 := by
    rw [← six_b6 hr.1 hr.2.1, ← six_slot1]
    refine six_congr fun i hi => ?_
    rw [full_at k r hl, if_neg (by omega), if_pos (by omega), show 13 * k + 1 + i - k * 13 = 1 + i from by omega]
  have e2 : six (setL bs (saveL k r)) (13 * k + 7) = r.2 := by
    rw [← six_b6 hr.2.2.1 hr.2.2.2, ← six_slot7]
    refine six_congr fun i hi => ?_
    rw [full_at k r hl, if_neg (by omega), if_pos (by omega), show 13 * k + 7 + i - k * 13 = 7 + i from by omega]
  rw [slotOf, if_pos e0, e1, e2]
theorem full_other (k : Nat) (r : Int × Int) {bs : List Int} (hl : k * 13 + 13 ≤ bs.length) {q : Nat} (hq : q ≠ k) : slotOf (setL bs (saveL k r)) q = slotOf bs q :=
  slot_same fun j h1 h2 => by
    have : q < k ∨ k < q := by omega
    rw [full_at k r hl, if_neg (by omega), if_neg (by omega)]
theorem part_slot (k : Nat) (r : Int × Int) {bs : List Int} (hl : k * 13 + 13 ≤ bs.length) {m : Nat} (h0 : 0 < m) (hm : m ≤ 13) : slotOf (setL bs ((saveL k r).take m)) k = none := by
  have e0 : (setL bs ((saveL k r).take m)).getD (13 * k) 0 = 0 := by rw [part_at k r hl hm, if_pos (by omega), show 13 * k - k * 13 = 0 from by omega, slotB_zero]
  rw [slotOf, e0]
  rfl
theorem part_other (k : Nat) (r : Int × Int) {bs : List Int} (hl : k * 13 + 13 ≤ bs.length) {m : Nat} (hm : m ≤ 13) {q : Nat} (hq : q ≠ k) : slotOf (setL bs ((saveL k r).take m)) q = slotOf bs q :=
  slot_same fun j h1 h2 => by
    have : q < k ∨ k < q := by omega
    rw [part_at k r hl hm, if_neg (by omega)]
theorem bad_less {a r : Int × Int} (h : badE a r = 0) : sumR a < sumR r ∧ RecOk r := by
  unfold badE at h
  split at h
  · omega
  · split at h
    · omega
    · rename_i h1 h2
      obtain ⟨x, y⟩ := a
      obtain ⟨p, q⟩ := r
      simp only [sumR, RecOk] at h1 h2 ⊢
      have h3 : ¬ (p = x ∧ q = y) := fun h => h2 (.inr (.inr (by rw [h.1, h.2])))
      refine ⟨by omega, by omega, by omega, by omega, by omega⟩
/-- A record that may be kept, kept: it is the one. -/
theorem open_full {bs : List Int} (hl : 26 ≤ bs.length) {r : Int × Int} (h : badE (openR bs).1 r = 0) : openR (setL bs (saveL (saveS (openR bs).2) r)) = (r, (saveS (openR bs).2 : Int)) := by
  obtain ⟨hlt, hok⟩ := bad_less h
  clear h
  have hk : saveS (openR bs).2 = 0 ∨ saveS (openR bs).2 = 1 := by unfold saveS; split <;> simp
  obtain ⟨k, hkk⟩ : ∃ k, saveS (openR bs).2 = k := ⟨_, rfl⟩
  rw [hkk] at hk ⊢
  unfold openR at hlt hkk ⊢
  rcases hk with rfl | rfl
  · rw [full_slot 0 hok (by omega), full_other 0 r (by omega) (by decide)]
    cases h0 : slotOf bs 0 <;> cases h1 : slotOf bs 1 <;> rw [h0, h1] at hlt hkk
    · rfl
    · simp only [look] at hlt ⊢
      simp at hlt ⊢
      omega
    · simp [look, saveS] at hkk
    · rename_i a b
      by_cases hab : sumR a < sumR b
      · simp [look, hab] at hlt ⊢
        omega
      · simp [look, hab, saveS] at hkk
  · rw [full_slot 1 hok (by omega), full_other 1 r (by omega) (by decide)]
    cases h0 : slotOf bs 0 <;> cases h1 : slotOf bs 1 <;> rw [h0, h1] at hlt hkk
    · simp [look, saveS] at hkk
    · simp [look, saveS] at hkk
    · simp [look] at hlt ⊢
      omega
    · rename_i a b
      by_cases hab : sumR a < sumR b
      · simp [look, hab, saveS] at hkk
      · simp [look, hab] at hlt ⊢
        omega
/-- The power gone ahead of its end: what was there is there. -/
theorem open_part {bs : List Int} (hl : 26 ≤ bs.length) (r : Int × Int) {m : Nat} (hm : m ≤ 13) : openR (setL bs ((saveL (saveS (openR bs).2) r).take m)) = openR bs := by
  rcases Nat.eq_zero_or_pos m with rfl | h0
  · rw [List.take_zero]; rfl
  have hk : saveS (openR bs).2 = 0 ∨ saveS (openR bs).2 = 1 := by unfold saveS; split <;> simp
  obtain ⟨k, hkk⟩ : ∃ k, saveS (openR bs).2 = k := ⟨_, rfl⟩
  rw [hkk] at hk ⊢
  unfold openR at hkk ⊢
  rcases hk with rfl | rfl
  · rw [part_slot 0 r (by omega) h0 hm, part_other 0 r (by omega) hm (by decide)]
    cases h1 : slotOf bs 0 <;> cases h2 : slotOf bs 1 <;> rw [h1, h2] at hkk
    all_goals first | rfl | (simp [look, saveS] at hkk; done) | (rename_i a b; by_cases hab : sumR a < sumR b <;> simp [look, hab, saveS] at hkk ⊢)
  · rw [part_slot 1 r (by omega) h0 hm, part_other 1 r (by omega) hm (by decide)]
    cases h1 : slotOf bs 0 <;> cases h2 : slotOf bs 1 <;> rw [h1, h2] at hkk
    all_goals first | rfl | (simp [look, saveS] at hkk; done) | (rename_i a b; by_cases hab : sumR a < sumR b <;> simp [look, hab, saveS] at hkk ⊢)
end Go.Proofs.YtmfdpjijpbgjbaaDoor
