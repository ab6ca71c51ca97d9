/- The chapter's examples hold: what 'first' of chapter 6 hands back. -/
import Derived.Test.YtnhfnklbeifbhaaMailLaw
import Derived.Test.YtnhfnklbeifbhaaSameBytes
namespace Go.Proofs.Ytnhfnklbeifbhaa
open Go.RowKit
set_option linter.unusedSimpArgs false

def SaysTrue (w : World) (e : Ending) (w' : World) : Prop := e = .returned (.bool true) ∧ Below w.heap.size w w'
theorem zero_mail (w : World) : (zeroValue 26).run Try.prog w = .ok (.agg #[.slice none 0 0, .int .i64 0]) w := by kernel_rfl
/-- Bytes that the text itself lays. -/
theorem here_lit (w : World) (dst : Int) (bs : List Int) (c : Nat) (E : TypeId) (B : Nat) (hB : w.heap.size = B) : It.here (w.alloc (.cells (bs.map (Value.int .u8)).toArray E)) ⟨dst, some ⟨B, 0, none⟩, c, bs⟩ := by
  subst hB
  exact .inr ⟨w.heap.size, 0, rfl, by simp, fun k _ => by rw [Nat.zero_add]; exact (Blk.new w (bs.map (Value.int .u8)) E).cell k⟩
theorem below_own {B : Nat} {F : Nat → Prop} {w0 w w' : World} (hb : Below B w0 w) (he : Eff F w w') (hB : B ≤ w.heap.size) (hF : ∀ k, F k → B ≤ k) : Below B w0 w' := he.below hb hB (fun i hi h => by have := hF i h; omega)

set_option maxHeartbeats 800000 in
theorem first_any (w : World) : Calls Try.prog 7 #[] w (SaysTrue w) := by
  have hz := zero_mail
  go_enter Try.func7, Try.ntmps7
  go_wp2_with fail
  obtain ⟨w0, hw0⟩ : ∃ w0, w0 = w.alloc (.cells #[.slice none 0 0, .int .i64 0] 26) := ⟨_, rfl⟩
  have hm0 : MailL w0 w.heap.size (· = w.heap.size) [] 0 := MailL.new (by rw [hw0]; exact Blk.new w _ _)
  have hB0 : Below w.heap.size w w0 := by rw [hw0]; exact (Below.refl _ _).alloc (Nat.le_refl _) _
  rw [← hw0]
  have hb1 : Below w0.heap.size w0 (w0.alloc (.cells #[.int .u8 5] 5)) := (Below.refl _ _).alloc (Nat.le_refl _) _
  have hm1 := hm0.below hb1
  have hB1 := hB0.trans (hb1.mono hB0.size)
  have hp := putL ⟨1, some ⟨w.heap.size + 1, 0, none⟩, 1, [5]⟩ _ hm1 (here_lit w0 1 [5] 1 5 _ (by rw [hw0]; simp)) (by simp) (by simp)
  refine hp.mono ?_
  rintro e w2 ⟨F2, rfl, hm2, hF2, he2⟩
  have hB2 := below_own hB1 he2 hB1.size (fun k hk => by rw [hk]; exact Nat.le_refl _)
  have hG2 : ∀ k, F2 k → w.heap.size ≤ k := fun k hk => by
    rcases hF2 k hk with h | h
    · rw [h]; exact Nat.le_refl _
    · exact Nat.le_trans hB1.size h
  clear hp hm1 hm0 hw0 hb1 hB0 he2 hF2
  go_wp2_with fail
  refine (copyL 0 (1, [5]) _ hm2 rfl (by simp) (by simp)).mono ?_
  rintro e w3 ⟨F3, rfl, hm3, hF3, he3⟩
  have hB3 := below_own hB2 he3 hB2.size hG2
  go_wp2_with fail
  refine (lenL _ hm3).mono ?_
  rintro e w' ⟨rfl, rfl⟩
  go_wp2_with fail
  go_ret
  exact ⟨rfl, hB3⟩
end Go.Proofs.Ytnhfnklbeifbhaa
