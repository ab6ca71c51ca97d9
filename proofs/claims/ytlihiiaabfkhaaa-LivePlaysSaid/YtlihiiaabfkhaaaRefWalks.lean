/- What the statements' own small helpers do: numbers below a bound, whether two lists of numbers are the same. -/
import Derived.Test.YtlihiiaabfkhaaaRows
import Derived.Test.YtlihiiaabfkhaaaLib
namespace Go.Proofs.Ytlihiiaabfkhaaa
open Go.RowKit

set_option maxHeartbeats 400000 in
theorem number_any (n b : Int) (hb : 0 < b) (hb' : b ≤ 100000) (w : World) :
    Calls Try.prog 8 #[.int .i64 n, .int .i64 b] w fun e w' => e = .returned (.int .i64 (n % b)) ∧ w = w' := by
  have HF := hid (tmod_fix n b hb)
  have h1 : -b < n.tmod b := by
    have := Int.lt_tmod_of_pos n hb
    omega
  have h2 : n.tmod b < b := Int.tmod_lt_of_pos n hb
  go_enter Try.func8, Try.ntmps8
  go_wp2
  · go_ret
    have h : n.tmod b < 0 := by assumption
    rw [← HF.out, if_pos h]
    exact ⟨rfl, rfl⟩
  · go_ret
    have h : 0 ≤ n.tmod b := by assumption
    rw [← HF.out, if_neg (by omega)]
    exact ⟨rfl, rfl⟩

/-- A number from 0 to below b, of any. -/
def GivesBelow (w : World) (b : Int) (e : Ending) (w' : World) : Prop := ∃ r : Int, 0 ≤ r ∧ r < b ∧ e = .returned (.int .i64 r) ∧ w = w'
theorem number_rng (n b : Int) (hb : 0 < b) (hb' : b ≤ 100000) (w : World) : Calls Try.prog 8 #[.int .i64 n, .int .i64 b] w (GivesBelow w b) :=
  (number_any n b hb hb' w).mono fun _ _ ⟨he, hw⟩ => ⟨n % b, Int.emod_nonneg n (by omega), Int.emod_lt_of_pos n hb, he, hw⟩

theorem add_at (b o k : Nat) : (⟨b, o, none⟩ : Addr).add k = ⟨b, o + k, none⟩ := by
  unfold Addr.add
  split
  · simp_all
  · rfl
/-- What the shell of a row tells of a slice of numbers, as the walks want it. -/
theorem sl_of_cells {w : World} {x : Addr} {zs : List Int} {len : Nat} (hlen : len ≤ zs.length) (hc : ∀ i, i < zs.length → w.cell? (x.add i) = some (.int .i64 (zs.getD i 0))) : Sl w (some x) ((zs.take len).map (Value.int .i64)) := by
  by_cases h0 : len = 0
  · subst h0
    exact .inl (by simp)
  · have c0 := hc 0 (by omega)
    rw [show x.add 0 = x from by simp [Addr.add]] at c0
    obtain ⟨b, o, s⟩ := x
    cases s with
    | some s =>
      exfalso
      simp only [World.cell?] at c0
      split at c0 <;> simp at c0
    | none =>
      refine .inr ⟨b, o, rfl, World.block_lt_of_cell? w _ c0, fun k hk => ?_⟩
      have hk' : k < zs.length := by
        simp only [List.length_map, List.length_take] at hk
        omega
      have := hc k hk'
      rw [add_at] at this
      rw [this]
      have hk2 : k < len := by
        simp only [List.length_map, List.length_take] at hk
        omega
      simp [hk2, List.getD_eq_getElem?_getD, List.getElem?_eq_getElem hk']

def SameRel (w : World) (xs ys : List Int) (i : Value) (wr : World) : Prop := ∃ k : Nat, k ≤ xs.length ∧ i = .int .i64 k ∧ xs.take k = ys.take k ∧ ∃ nq, wr = w.drewN nq
/-- The call handed back a bool; no block has turned. -/
def GivesBool (w : World) (b : Bool) (e : Ending) (w' : World) : Prop := e = .returned (.bool b) ∧ ∃ nq, w' = w.drewN nq

theorem getD_int {xs : List Int} {k : Nat} (h : k < xs.length) : (xs.map (Value.int .i64))[k]? = some (.int .i64 (xs.getD k 0)) := by
  simp [List.getD_eq_getElem?_getD, List.getElem?_eq_getElem h]
theorem getD_get {xs : List Int} {k : Nat} (h : k < xs.length) : xs.getD k 0 = xs[k] := by
  simp [List.getD_eq_getElem?_getD, List.getElem?_eq_getElem h]
theorem take_ints {xs : List Int} {k : Nat} (h : k < xs.length) (f : Int → Value) : (xs.take (k + 1)).map f = (xs.take k).map f ++ [f (xs.getD k 0)] := by
  rw [List.take_succ_eq_append_getElem h, List.map_append, getD_get h]
  rfl
theorem take_same {xs ys : List Int} {k : Nat} (hx : k < xs.length) (hy : k < ys.length) (h : xs.take k = ys.take k) (e : xs.getD k 0 = ys.getD k 0) : xs.take (k + 1) = ys.take (k + 1) := by
  rw [List.take_succ_eq_append_getElem hx, List.take_succ_eq_append_getElem hy, h]
  simp [List.getD_eq_getElem?_getD, List.getElem?_eq_getElem hx, List.getElem?_eq_getElem hy] at e
  rw [e]
theorem not_same {xs ys : List Int} {k : Nat} (e : xs.getD k 0 ≠ ys.getD k 0) : decide (xs = ys) = false := by
  simp only [decide_eq_false_iff_not]
  rintro rfl
  exact e rfl

set_option maxHeartbeats 800000 in
theorem sameInts_any (A B : Option Addr) (c d : Nat) (xs ys : List Int) (w : World) (hx : Sl w A (xs.map (Value.int .i64))) (hy : Sl w B (ys.map (Value.int .i64)))
    (hxl : xs.length ≤ maxLen) (hyl : ys.length ≤ maxLen) :
    Calls Try.prog 12 #[.slice A xs.length c, .slice B ys.length d] w (GivesBool w (decide (xs = ys))) := by
  unfold maxLen at hxl hyl
  by_cases hlen : xs.length = ys.length
  · have hb : (((xs.length : Int) != (ys.length : Int))) = false := by simp [hlen]
    have HLEN := hid hlen
    clear hlen
    go_enter Try.func12, Try.ntmps12
    go_wp2
    go_loopw [5] (fun i wr => SameRel w xs ys i wr) (fun i _ => xs.length - (intOf i).toNat)
    case atStart => exact ⟨0, Nat.zero_le _, rfl, by simp, 0, rfl⟩
    case round =>
      obtain ⟨k, hk, rfl, htk, nq, rfl⟩ := hrel
      by_cases hlt : k < xs.length
      · have hlt' : k < ys.length := by rw [← HLEN.out]; exact hlt
        obtain ⟨b1, o1, rfl, _, hc1⟩ := hx.at (by simp; omega)
        obtain ⟨b2, o2, rfl, _, hc2⟩ := hy.at (by simp; omega)
        have d1 : w.cell? ⟨b1, o1 + k, none⟩ = some (.int .i64 (xs.getD k 0)) := by rw [hc1 k (by simpa using hlt), getD_int hlt]
        have d2 : w.cell? ⟨b2, o2 + k, none⟩ = some (.int .i64 (ys.getD k 0)) := by rw [hc2 k (by simpa using hlt'), getD_int hlt']
        clear hc1 hc2
        have HT := hid htk
        clear htk
        obtain ⟨x, ex⟩ : ∃ x, xs.getD k 0 = x := ⟨_, rfl⟩
        obtain ⟨y, ey⟩ : ∃ y, ys.getD k 0 = y := ⟨_, rfl⟩
        rw [ex] at d1
        rw [ey] at d2
        by_cases he : x = y
        · have hd1 : (x == y) = true := by simpa using he
          have HE : Hid (xs.getD k 0 = ys.getD k 0) := by rw [ex, ey]; exact he
          clear he ex ey
          have hki : (k : Int) < (xs.length : Int) := by omega
          have hki' : (k : Int) < (ys.length : Int) := by omega
          have hk0 : (0 : Int) ≤ k := by omega
          go_wp2
          go_quiet (fail)
          go_wp2
          go_roundw
          case rel => exact ⟨k + 1, by omega, by go_num, take_same hlt hlt' HT.out HE.out, _, rfl⟩
          case measure => simp [intOf]; omega
        · have hd1 : (x == y) = false := by simpa using he
          have HE : Hid (xs.getD k 0 ≠ ys.getD k 0) := by rw [ex, ey]; exact he
          clear he ex ey
          have hki : (k : Int) < (xs.length : Int) := by omega
          have hki' : (k : Int) < (ys.length : Int) := by omega
          have hk0 : (0 : Int) ≤ k := by omega
          go_wp2
          go_quiet (fail)
          go_wp2
          go_ret
          rw [not_same HE.out]
          exact ⟨rfl, _, rfl⟩
      · have hk' : k = xs.length := by omega
        have he : xs = ys := by
          have := htk
          rw [hk', List.take_length, HLEN.out, List.take_length] at this
          exact this
        clear htk
        have HE := hid he
        clear he
        have HK := hid hk'
        clear hk'
        go_wp2
        go_ret
        exact ⟨by simp [HE.out], _, rfl⟩
  · have hb : (((xs.length : Int) != (ys.length : Int))) = true := by simp; omega
    have HN : Hid (decide (xs = ys) = false) := by
      simp only [Hid, decide_eq_false_iff_not]
      rintro rfl
      exact hlen rfl
    clear hlen
    go_enter Try.func12, Try.ntmps12
    go_wp2
    go_ret
    exact ⟨by rw [HN.out]; rfl, 0, rfl⟩
/-- Two slices that read as one list are the same. -/
theorem sameInts_same (A B : Option Addr) (c d : Nat) (xs : List Int) (w : World) (hx : Sl w A (xs.map (Value.int .i64))) (hy : Sl w B (xs.map (Value.int .i64))) (hl : xs.length ≤ 1000000) :
    Calls Try.prog 12 #[.slice A xs.length c, .slice B xs.length d] w (GivesBool w true) := by
  have h := sameInts_any A B c d xs xs w hx hy (by unfold maxLen; omega) (by unfold maxLen; omega)
  rwa [decide_eq_true rfl] at h
end Go.Proofs.Ytlihiiaabfkhaaa
