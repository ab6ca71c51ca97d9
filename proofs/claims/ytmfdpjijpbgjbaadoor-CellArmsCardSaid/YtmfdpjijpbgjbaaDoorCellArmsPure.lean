/- A memory that was armed for its n-th write, behind k writes; in plain data. -/
import Derived.Test.YtmfdpjijpbgjbaaDoorCellPure
namespace Go.Proofs.YtmfdpjijpbgjbaaDoor
open Go.RowKit

/-- Does the write of that place do well? -/
def armOk (n : Int) (i : Nat) : Bool := decide (n < 1) || decide ((i : Int) + 1 < n)
def armByte (n : Int) (k i : Nat) : Int := if decide (i < k) && armOk n i then (i : Int) + 1 else 0
def Cl.arms (n : Int) (k : Nat) : Cl :=
  ⟨(List.range 30).map (armByte n k), if n < 1 then 0 else if (k : Int) < n then n - k else 0, decide (1 ≤ n) && decide (n ≤ k), if n < 1 then (k : Int) else if (k : Int) < n then (k : Int) else n - 1⟩
theorem arms_zero (n : Int) (h : 0 ≤ n) : (Cl.new 30).arm n = Cl.arms n 0 := by
  have hb : (List.range 30).map (armByte n 0) = List.replicate 30 0 := by
    rw [List.eq_replicate_iff]
    refine ⟨by simp, fun x hx => ?_⟩
    obtain ⟨i, _, rfl⟩ := List.mem_map.1 hx
    simp [armByte]
  unfold Cl.arms Cl.arm Cl.new
  rw [hb]
  congr 1
  · split <;> first | omega | (split <;> omega)
  · simp only; symm; simp; omega
  · simp only; split <;> first | rfl | (split <;> omega)
theorem arms_len (n : Int) (k : Nat) : (Cl.arms n k).bs.length = 30 := by simp [Cl.arms]
theorem arms_ok (n : Int) (k : Nat) (h : 0 ≤ n) (hn : n < 30) : (Cl.arms n k).ok := by
  refine ⟨?_, ?_, fun x hx => ?_⟩
  · simp only [Cl.arms]; split <;> first | omega | (split <;> omega)
  · simp only [Cl.arms]; split <;> first | omega | (split <;> omega)
  · simp only [Cl.arms] at hx
    obtain ⟨i, hi, rfl⟩ := List.mem_map.1 hx
    have := List.mem_range.1 hi
    unfold armByte
    split <;> omega
theorem range_set {f h : Nat → Int} {m k : Nat} (v : Int) (hk : h k = v) (ho : ∀ i, i < m → i ≠ k → h i = f i) : ((List.range m).map f).set k v = (List.range m).map h := by
  apply List.ext_getElem?
  intro i
  rw [List.getElem?_set]
  by_cases e : k = i
  · subst e
    by_cases hm : k < m <;> simp [hm, hk]
  · rw [if_neg e]
    by_cases hm : i < m
    · simp [hm, (ho i hm (fun h => e h.symm))]
    · simp [hm]
theorem arms_put (n : Int) (k : Nat) (h : 0 ≤ n) (hk : k < 30) : (Cl.arms n k).put k (k + 1) = Cl.arms n (k + 1) ∧ (Cl.arms n k).putE k = (if armOk n k then 0 else 105) := by
  have hi : (Cl.arms n k).is k = true := by simp [Cl.is, arms_len]; omega
  have hbs : armOk n k = true → ((List.range 30).map (armByte n k)).set k ((k : Int) + 1) = (List.range 30).map (armByte n (k + 1)) := fun ha => by
    refine range_set _ ?_ fun i _ hne => ?_
    · simp [armByte, ha]
    · have : decide (i < k + 1) = decide (i < k) := by simp; omega
      simp only [armByte, this]
  have hbs2 : armOk n k = false → (List.range 30).map (armByte n k) = (List.range 30).map (armByte n (k + 1)) := fun ha => by
    refine List.map_congr_left fun i _ => ?_
    by_cases e : i = k
    · subst e; simp [armByte, ha]
    · have : decide (i < k + 1) = decide (i < k) := by simp; omega
      simp only [armByte, this]
  by_cases h1 : n < 1
  · have hn : n = 0 := by omega
    subst hn
    have ha : armOk 0 k = true := by simp [armOk]
    have hg : (Cl.arms 0 k).gone = Cl.arms 0 k := by simp [Cl.gone, Cl.arms]
    have hd : (Cl.arms 0 k).down = false := by simp [Cl.arms]
    refine ⟨?_, by simp [Cl.putE, hg, hd, hi, ha]⟩
    unfold Cl.put
    rw [hg, hd, if_neg (by simp), hi, if_pos rfl]
    simp only [Cl.arms, Int.toNat_natCast, hbs ha]
    simp
  · by_cases h2 : (k : Int) + 1 < n
    · have ha : armOk n k = true := by simp [armOk, h2]
      have hg : (Cl.arms n k).gone = { Cl.arms n k with fuse := n - k - 1 } := by
        have e1 : ¬ (n ≤ (k : Int)) := by omega
        have e2 : (k : Int) < n := by omega
        have e3 : ¬ (n - k - 1 = 0) := by omega
        simp [Cl.gone, Cl.arms, h1, e1, e2, e3]
      have hd : (Cl.arms n k).gone.down = false := by rw [hg]; simp [Cl.arms]; omega
      refine ⟨?_, by simp [Cl.putE, hd, hi, ha]⟩
      unfold Cl.put
      rw [hd, if_neg (by simp), hi, if_pos rfl, hg]
      simp only [Cl.arms, Int.toNat_natCast, hbs ha]
      have e2 : (k : Int) < n := by omega
      have e4 : ((k + 1 : Nat) : Int) < n := by omega
      simp only [h1, e2, e4, if_true, if_false]
      congr 1
      · omega
      · have a1 : decide (n ≤ (k : Int)) = false := by simp; omega
        have a2 : decide (n ≤ ((k + 1 : Nat) : Int)) = false := by simp; omega
        rw [a1, a2]
    · have ha : armOk n k = false := by simp [armOk]; omega
      have hd : (Cl.arms n k).gone.down = true ∧ (Cl.arms n k).gone = Cl.arms n (k + 1) := by
        by_cases h3 : (k : Int) < n
        · have hn : n = (k : Int) + 1 := by omega
          have hg : (Cl.arms n k).gone = { Cl.arms n k with fuse := 0, down := true } := by
            have e1 : ¬ (n ≤ (k : Int)) := by omega
            have e3 : n - k - 1 = 0 := by omega
            simp [Cl.gone, Cl.arms, h1, e1, h3, e3]
          refine ⟨by rw [hg], ?_⟩
          rw [hg]
          have e4 : ¬ ((k + 1 : Nat) : Int) < n := by omega
          have e5 : n ≤ ((k + 1 : Nat) : Int) := by omega
          have e6 : (1 : Int) ≤ n := by omega
          simp only [Cl.arms, hbs2 ha, h1, h3, e4, e5, e6, if_true, if_false, decide_true, Bool.and_self]
          congr 1
          omega
        · have hg : (Cl.arms n k).gone = Cl.arms n k := by
            have e1 : n ≤ (k : Int) := by omega
            have e6 : (1 : Int) ≤ n := by omega
            simp [Cl.gone, Cl.arms, e1, e6]
          have e1 : n ≤ (k : Int) := by omega
          have e6 : (1 : Int) ≤ n := by omega
          refine ⟨by rw [hg]; simp [Cl.arms, e1, e6], ?_⟩
          rw [hg]
          have e4 : ¬ ((k + 1 : Nat) : Int) < n := by omega
          have e5 : n ≤ ((k + 1 : Nat) : Int) := by omega
          simp only [Cl.arms, hbs2 ha, h1, h3, e1, e4, e5, e6, if_false, decide_true, Bool.and_self]
      refine ⟨?_, by simp [Cl.putE, hd.1, ha]⟩
      unfold Cl.put
      rw [hd.1, if_pos rfl, hd.2]
theorem arms_get (n : Int) (k i : Nat) (hi : i < 30) : (Cl.arms n k).back.get i = armByte n k i ∧ (Cl.arms n k).back.getE i = 0 := by
  have hd : (Cl.arms n k).back.down = false := rfl
  have his : (Cl.arms n k).back.is i = true := by simp [Cl.is, Cl.back, arms_len]; omega
  refine ⟨?_, by simp [Cl.getE, hd, his]⟩
  simp only [Cl.get, hd, his, if_true, Bool.false_eq_true, if_false, Int.toNat_natCast]
  simp [Cl.back, Cl.arms, List.getD_eq_getElem?_getD, hi]
end Go.Proofs.YtmfdpjijpbgjbaaDoor
