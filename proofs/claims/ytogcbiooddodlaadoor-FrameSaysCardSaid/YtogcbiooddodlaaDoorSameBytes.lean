/- Lists of bytes: the same, or not. -/
import Derived.Test.YtogcbiooddodlaaDoorRefInts
namespace Go.Proofs.YtogcbiooddodlaaDoor
open Go.RowKit

theorem getD_u8 {xs : List Int} {k : Nat} (h : k < xs.length) : (xs.map (Value.int .u8))[k]? = some (.int .u8 (xs.getD k 0)) := by
  simp [List.getD_eq_getElem?_getD, List.getElem?_eq_getElem h]
theorem take_same {xs ys : List Int} {k : Nat} (hx : k < xs.length) (hy : k < ys.length) (h : xs.take k = ys.take k) (e : xs.getD k 0 = ys.getD k 0) : xs.take (k + 1) = ys.take (k + 1) := by
  rw [List.take_succ_eq_append_getElem hx, List.take_succ_eq_append_getElem hy, h]
  simp [List.getD_eq_getElem?_getD, List.getElem?_eq_getElem hx, List.getElem?_eq_getElem hy] at e
  rw [e]
theorem not_same {xs ys : List Int} {k : Nat} (e : xs.getD k 0 ≠ ys.getD k 0) : decide (xs = ys) = false := by
  simp only [decide_eq_false_iff_not]
  rintro rfl
  exact e rfl
def GivesBool (w : World) (b : Bool) (e : Ending) (w' : World) : Prop := e = .returned (.bool b) ∧ ∃ n, w' = w.drewN n
def SameRelB (w : World) (xs ys : List Int) (i : Value) (wr : World) : Prop := ∃ k : Nat, k ≤ xs.length ∧ i = .int .i64 k ∧ xs.take k = ys.take k ∧ ∃ n, wr = w.drewN n

set_option maxHeartbeats 800000 in
theorem sameBytes_any (A B : Option Addr) (c d : Nat) (xs ys : List Int) (w : World) (hx : Sl w A (xs.map (Value.int .u8))) (hy : Sl w B (ys.map (Value.int .u8)))
    (hxl : xs.length ≤ maxLen) (hyl : ys.length ≤ maxLen) :
    Calls Tryd.prog 16 #[.slice A xs.length c, .slice B ys.length d] w (GivesBool w (decide (xs = ys))) := by
  unfold maxLen at hxl hyl
  by_cases hlen : xs.length = ys.length
  · have hb : (((xs.length : Int) != (ys.length : Int))) = false := by simp [hlen]
    have HLEN := hid hlen
    clear hlen
    go_enter Tryd.func16, Tryd.ntmps16
    go_wp2
    go_loopw [5] (fun i wr => SameRelB w xs ys i wr) (fun i _ => xs.length - (intOf i).toNat)
    case atStart => exact ⟨0, Nat.zero_le _, rfl, by simp, 0, rfl⟩
    case round =>
      obtain ⟨k, hk, rfl, htk, nq, rfl⟩ := hrel
      by_cases hlt : k < xs.length
      · have hlt' : k < ys.length := by rw [← HLEN.out]; exact hlt
        obtain ⟨b1, o1, rfl, _, hc1⟩ := hx.at (by simp; omega)
        obtain ⟨b2, o2, rfl, _, hc2⟩ := hy.at (by simp; omega)
        have d1 : w.cell? ⟨b1, o1 + k, none⟩ = some (.int .u8 (xs.getD k 0)) := by rw [hc1 k (by simpa using hlt), getD_u8 hlt]
        have d2 : w.cell? ⟨b2, o2 + k, none⟩ = some (.int .u8 (ys.getD k 0)) := by rw [hc2 k (by simpa using hlt'), getD_u8 hlt']
        clear hc1 hc2
        have HT := hid htk
        clear htk
        obtain ⟨x, ex⟩ : ∃ x, xs.getD k 0 = x := ⟨_, rfl⟩
        obtain ⟨y, ey⟩ : ∃ y, ys.getD k 0 = y := ⟨_, rfl⟩
        rw [ex] at d1
        rw [ey] at d2
        by_cases he : x = y
        · have hd1 : (x == y) = true := by simpa using he
          have HE : Hid (xs.getD k 0 = ys.getD k 0) := by rw [ex, ey]; exact he
          clear he ex ey
          have hki : (k : Int) < (xs.length : Int) := by omega
          have hki' : (k : Int) < (ys.length : Int) := by omega
          have hk0 : (0 : Int) ≤ k := by omega
          go_wp2
          go_quiet (fail)
          go_wp2
          go_roundw
          case rel => exact ⟨k + 1, by omega, by go_num, take_same hlt hlt' HT.out HE.out, _, rfl⟩
          case measure => simp [intOf]; omega
        · have hd1 : (x == y) = false := by simpa using he
          have HE : Hid (xs.getD k 0 ≠ ys.getD k 0) := by rw [ex, ey]; exact he
          clear he ex ey
          have hki : (k : Int) < (xs.length : Int) := by omega
          have hki' : (k : Int) < (ys.length : Int) := by omega
          have hk0 : (0 : Int) ≤ k := by omega
          go_wp2
          go_quiet (fail)
          go_wp2
          go_ret
          rw [not_same HE.out]
          exact ⟨rfl, _, rfl⟩
      · have hk' : k = xs.length := by omega
        have he : xs = ys := by
          have := htk
          rw [hk', List.take_length, HLEN.out, List.take_length] at this
          exact this
        clear htk
        have HE := hid he
        clear he
        have HK := hid hk'
        clear hk'
        go_wp2
        go_ret
        exact ⟨by simp [HE.out], _, rfl⟩
  · have hb : (((xs.length : Int) != (ys.length : Int))) = true := by simp; omega
    have HN : Hid (decide (xs = ys) = false) := by
      simp only [Hid, decide_eq_false_iff_not]
      rintro rfl
      exact hlen rfl
    clear hlen
    go_enter Tryd.func16, Tryd.ntmps16
    go_wp2
    go_ret
    exact ⟨by rw [HN.out]; rfl, 0, rfl⟩
/-- Two slices that read as one list are the same. -/
theorem sameBytes_same (A B : Option Addr) (c d : Nat) (xs : List Int) (w : World) (hx : Sl w A (xs.map (Value.int .u8))) (hy : Sl w B (xs.map (Value.int .u8))) (hl : xs.length ≤ 1000000) :
    Calls Tryd.prog 16 #[.slice A xs.length c, .slice B xs.length d] w (GivesBool w true) := by
  have h := sameBytes_any A B c d xs xs w hx hy (by unfold maxLen; omega) (by unfold maxLen; omega)
  rwa [decide_eq_true rfl] at h
end Go.Proofs.YtogcbiooddodlaaDoor
