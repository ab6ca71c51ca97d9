/- The chapter's examples hold: what 'first' of chapter 9 hands back. -/
import Derived.Test.YtioaapgpcpepmaaGateWalks2
namespace Go.Proofs.Ytioaapgpcpepmaa
open Go.RowKit
set_option linter.unusedSimpArgs false

/-- The call handed back 'true'; nothing that was there has turned. -/
def SaysTrue (w : World) (e : Ending) (w' : World) : Prop := e = .returned (.bool true) ∧ Below w.heap.size w w'

theorem field_count (x y : Int) (w : World) : (Instr.field 28 (.agg #[.int .i64 x, .int .i64 y]) 0).run Try.prog w = .ok (.int .i64 x) w := by kernel_rfl
set_option maxRecDepth 100000 in
set_option maxHeartbeats 1600000 in
theorem first_any (w : World) : Calls Try.prog 8 #[] w (SaysTrue w) := by
  go_enter Try.func8, Try.ntmps8
  go_wp2_with fail
  refine (gateNew_any 5 _).mono ?_
  rintro e w1 ⟨rfl, hG1, hB1, hs1⟩
  have hs2 : w.heap.size < w1.heap.size := by omega
  clear hs1
  go_wp2_with fail
  obtain ⟨w2, hw2⟩ : ∃ w2, w2 = (w1.alloc (.cells #[.int .i64 1] 3)).alloc (.cells #[.int .i64 5, .int .i64 0, .int .i64 1, .slice (some ⟨w1.heap.size, 0, none⟩) 1 1, .slice none 0 0] 32) := ⟨_, rfl⟩
  have hM2 : Blk w2 w1.heap.size [.int .i64 1] 3 := by rw [hw2]; exact (Blk.new w1 _ _).alloc _
  have hR2 : Blk w2 (w1.heap.size + 1) [.int .i64 5, .int .i64 0, .int .i64 1, .slice (some ⟨w1.heap.size, 0, none⟩) 1 1, .slice none 0 0] 32 := by
    rw [hw2, show w1.heap.size + 1 = (w1.alloc (.cells #[.int .i64 1] 3)).heap.size from by simp]; exact Blk.new _ _ _
  have hG2 : Blk w2 w.heap.size (Gt.mk 0 0 0 5).cells 54 := by rw [hw2]; exact (hG1.alloc _).alloc _
  have hB2 : Below w.heap.size w w2 := by rw [hw2]; exact (hB1.alloc hB1.size _).alloc (Nat.le_trans hB1.size (by simp)) _
  have hsl : Sl w2 (some ⟨w1.heap.size, 0, none⟩) ([1].map (Value.int .i64)) := .inr ⟨_, _, rfl, hM2.lt, fun k hk => by
    have hk0 : k = 0 := by simpa using hk
    subst hk0
    exact hM2.cell 0⟩
  rw [← hw2]
  clear hw2 hG1 hB1
  generalize w1.heap.size = M at *
  have h0 : Gt.would (Gt.mk 0 0 0 5) 1 1 ⟨5, 0, 1, some ⟨M, 0, none⟩, [1], 1, none, 0, 0⟩ = false := by simp [Gt.would, Gt.aboveB]
  have hwd := would_any (Gt.mk 0 0 0 5) 1 1 ⟨5, 0, 1, some ⟨M, 0, none⟩, [1], 1, none, 0, 0⟩ _ hG2 hsl (by simp)
  rw [h0] at hwd
  refine hwd.mono ?_
  rintro e w3 ⟨rfl, hb3⟩
  have hR3 := (Eff.of_below (S := fun _ => False) hb3).blk hR2 (fun h => h)
  have hG3 := (Eff.of_below (S := fun _ => False) hb3).blk hG2 (fun h => h)
  have hsl3 := hsl.eff (Eff.of_below (S := fun _ => False) hb3) (fun _ _ h => h)
  have hB3 := hB2.trans (hb3.mono hB2.size)
  clear hM2 hR2 hG2 hB2 hsl hwd h0 hb3
  have hR4 := hR3.set 0 (.int .i64 6)
  have hG4 := hG3.set_ne (b' := M + 1) (by omega) 0 none (.int .i64 6)
  have hB4 := hB3.setCell (p := ⟨M + 1, 0, none⟩) (by simp; omega) (.int .i64 6)
  have hsl4 : Sl (w3.setCell ⟨M + 1, 0, none⟩ (.int .i64 6)) (some ⟨M, 0, none⟩) ([1].map (Value.int .i64)) :=
    hsl3.eff ((Eff.refl (· = M + 1) w3).setCell (fun _ => rfl) _) (fun a ha => by simp at ha; subst ha; simp)
  have c0 : w3.cell? ⟨M + 1, 0, none⟩ = some (.int .i64 5) := hR3.cell 0
  have f0 := hR3.frozen 0
  have c1 : (w3.setCell ⟨M + 1, 0, none⟩ (.int .i64 6)).cell? ⟨M + 1, 0, none⟩ = some (.int .i64 6) := hR4.cell 0
  have c2 : w3.cell? ⟨M + 1, 1, none⟩ = some (.int .i64 0) := hR3.cell 1
  have c3 : w3.cell? ⟨M + 1, 2, none⟩ = some (.int .i64 1) := hR3.cell 2
  have c4 : w3.cell? ⟨M + 1, 3, none⟩ = some (.slice (some ⟨M, 0, none⟩) 1 1) := hR3.cell 3
  have c5 : w3.cell? ⟨M + 1, 4, none⟩ = some (.slice none 0 0) := hR3.cell 4
  clear c1
  go_wp2_with fail
  generalize w3.setCell ⟨M + 1, 0, none⟩ (.int .i64 6) = w4 at *
  clear hR3 hG3 hsl3 hB3 c0 f0 c2 c3 c4 c5 hR4
  have h1 : Gt.would (Gt.mk 0 0 0 5) 1 1 ⟨6, 0, 1, some ⟨M, 0, none⟩, [1], 1, none, 0, 0⟩ = true := by simp [Gt.would, Gt.aboveB, validE, Gt.newer, lessE]
  have h2 : (Gt.mk 0 0 0 5).take 1 1 ⟨6, 0, 1, some ⟨M, 0, none⟩, [1], 1, none, 0, 0⟩ = ⟨6, 0, 1, 5⟩ := by rw [Gt.take, h1]; rfl
  have htk := take_any (Gt.mk 0 0 0 5) 1 1 ⟨6, 0, 1, some ⟨M, 0, none⟩, [1], 1, none, 0, 0⟩ _ hG4 hsl4 (by simp)
  rw [h1, h2] at htk
  have htk2 : Calls Try.prog 11 _ w4 (TakesTo w4 w.heap.size ⟨6, 0, 1, 5⟩ 54 Gt.cells true true) := htk
  refine htk2.mono ?_
  rintro e w5 ⟨rfl, hG5, hE5⟩
  have hB5 := hE5.below hB4 hB4.size (fun i hi => by omega)
  clear htk htk2 h1 h2 hE5 hG4 hB4 hsl4
  go_wp2_with fail
  refine (gateEpoch_any _ _ hG5).mono ?_
  rintro e w6 ⟨rfl, hb6⟩
  have hfl := field_count
  go_wp2
  go_ret
  exact ⟨rfl, hB5.trans (hb6.mono hB5.size)⟩
end Go.Proofs.Ytioaapgpcpepmaa
