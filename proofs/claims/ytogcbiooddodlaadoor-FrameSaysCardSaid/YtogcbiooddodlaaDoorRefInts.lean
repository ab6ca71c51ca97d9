/- What the statements' own small helpers do: numbers below a bound; lists of numbers. -/
import Derived.Test.YtogcbiooddodlaaDoorRows
import Derived.Test.YtogcbiooddodlaaDoorLib
namespace Go.Proofs.YtogcbiooddodlaaDoor
open Go.RowKit

set_option maxHeartbeats 400000 in
theorem number_any (n b : Int) (hb : 0 < b) (hb' : b ≤ 100000) (w : World) :
    Calls Tryd.prog 24 #[.int .i64 n, .int .i64 b] w fun e w' => e = .returned (.int .i64 (n % b)) ∧ w = w' := by
  have HF := hid (tmod_fix n b hb)
  have h1 : -b < n.tmod b := by
    have := Int.lt_tmod_of_pos n hb
    omega
  have h2 : n.tmod b < b := Int.tmod_lt_of_pos n hb
  go_enter Tryd.func24, Tryd.ntmps24
  go_wp2
  · go_ret
    have h : n.tmod b < 0 := by assumption
    rw [← HF.out, if_pos h]
    exact ⟨rfl, rfl⟩
  · go_ret
    have h : 0 ≤ n.tmod b := by assumption
    rw [← HF.out, if_neg (by omega)]
    exact ⟨rfl, rfl⟩

/-- A number from 0 to below b, of any. -/
def GivesBelow (w : World) (b : Int) (e : Ending) (w' : World) : Prop := ∃ r : Int, 0 ≤ r ∧ r < b ∧ e = .returned (.int .i64 r) ∧ w = w'
theorem number_rng (n b : Int) (hb : 0 < b) (hb' : b ≤ 100000) (w : World) : Calls Tryd.prog 24 #[.int .i64 n, .int .i64 b] w (GivesBelow w b) :=
  (number_any n b hb hb' w).mono fun _ _ ⟨he, hw⟩ => ⟨n % b, Int.emod_nonneg n (by omega), Int.emod_lt_of_pos n hb, he, hw⟩

theorem getD_int {xs : List Int} {k : Nat} (h : k < xs.length) : (xs.map (Value.int .i64))[k]? = some (.int .i64 (xs.getD k 0)) := by
  simp [List.getD_eq_getElem?_getD, List.getElem?_eq_getElem h]
theorem getD_get {xs : List Int} {k : Nat} (h : k < xs.length) : xs.getD k 0 = xs[k] := by
  simp [List.getD_eq_getElem?_getD, List.getElem?_eq_getElem h]
theorem take_ints {xs : List Int} {k : Nat} (h : k < xs.length) (f : Int → Value) : (xs.take (k + 1)).map f = (xs.take k).map f ++ [f (xs.getD k 0)] := by
  rw [List.take_succ_eq_append_getElem h, List.map_append, getD_get h]
  rfl
theorem add_at (b o k : Nat) : (⟨b, o, none⟩ : Addr).add k = ⟨b, o + k, none⟩ := by
  unfold Addr.add
  split
  · simp_all
  · rfl
/-- What the shell of a row tells of a slice of numbers, as the walks want it. -/
theorem sl_of_cells {w : World} {x : Addr} {zs : List Int} {len : Nat} (hlen : len ≤ zs.length) (hc : ∀ i, i < zs.length → w.cell? (x.add i) = some (.int .i64 (zs.getD i 0))) : Sl w (some x) ((zs.take len).map (Value.int .i64)) := by
  by_cases h0 : len = 0
  · subst h0
    exact .inl (by simp)
  · have c0 := hc 0 (by omega)
    rw [show x.add 0 = x from by simp [Addr.add]] at c0
    obtain ⟨b, o, s⟩ := x
    cases s with
    | some s =>
      exfalso
      simp only [World.cell?] at c0
      split at c0 <;> simp at c0
    | none =>
      refine .inr ⟨b, o, rfl, World.block_lt_of_cell? w _ c0, fun k hk => ?_⟩
      have hk' : k < zs.length := by
        simp only [List.length_map, List.length_take] at hk
        omega
      have := hc k hk'
      rw [add_at] at this
      rw [this]
      have hk2 : k < len := by
        simp only [List.length_map, List.length_take] at hk
        omega
      simp [hk2, List.getD_eq_getElem?_getD, List.getElem?_eq_getElem hk']

end Go.Proofs.YtogcbiooddodlaaDoor
