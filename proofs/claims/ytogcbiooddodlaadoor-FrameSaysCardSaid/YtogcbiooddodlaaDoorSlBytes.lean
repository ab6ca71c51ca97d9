/- What the shell of a row tells of bytes. -/
import Derived.Test.YtogcbiooddodlaaDoorRefInts
namespace Go.Proofs.YtogcbiooddodlaaDoor
open Go.RowKit

/-- What the shell of a row tells of a slice of bytes, as the walks want it. -/
theorem sl_of_bytes {w : World} {x : Addr} {zs : List Int} {len : Nat} (hlen : len ≤ zs.length) (hc : ∀ i, i < zs.length → w.cell? (x.add i) = some (.int .u8 (zs.getD i 0))) : Sl w (some x) ((zs.take len).map (Value.int .u8)) := by
  by_cases h0 : len = 0
  · subst h0
    exact .inl (by simp)
  · have c0 := hc 0 (by omega)
    rw [show x.add 0 = x from by simp [Addr.add]] at c0
    obtain ⟨b, o, s⟩ := x
    cases s with
    | some s =>
      exfalso
      simp only [World.cell?] at c0
      split at c0 <;> simp at c0
    | none =>
      refine .inr ⟨b, o, rfl, World.block_lt_of_cell? w _ c0, fun k hk => ?_⟩
      have hk' : k < zs.length := by
        simp only [List.length_map, List.length_take] at hk
        omega
      have := hc k hk'
      rw [add_at] at this
      rw [this]
      have hk2 : k < len := by
        simp only [List.length_map, List.length_take] at hk
        omega
      simp [hk2, List.getD_eq_getElem?_getD, List.getElem?_eq_getElem hk']
end Go.Proofs.YtogcbiooddodlaaDoor
