/- A region that draws its order, under a condition that all its worlds meet: two operations may come up. -/
import Derived.Test.YtogcbiooddodlaaDoorRegions
namespace Go.Proofs.YtogcbiooddodlaaDoor
open Go.RowKit
section
variable {P : Program} {ops : List Oper} {Q : Exit → Act → World → Prop} {md : Region.Mode} {S : World → Prop} {fuel : Nat} {listed : Array Bool} {a : Act} {w : World}
theorem held_two (i j : Nat) {o o' : Oper} {tail tail' : List Oper} (ho : ops.drop i = o :: tail) (ho' : ops.drop j = o' :: tail') (hr : Region.ready md ops.toArray listed = [i, j])
    (hw : Region.wanted o (yielded ops.toArray a.tmps) = true) (hw' : Region.wanted o' (yielded ops.toArray a.tmps) = true)
    (h : ∀ K' : Act → World → Prop, Shut (∀ a w, S w → (S w → wpAnyH P md ops.toArray Q S fuel (listed.setIfInBounds i true) a w) → K' a w) → Oper.wp P o a w K' Q)
    (h' : ∀ K' : Act → World → Prop, Shut (∀ a w, S w → (S w → wpAnyH P md ops.toArray Q S fuel (listed.setIfInBounds j true) a w) → K' a w) → Oper.wp P o' a w K' Q) :
    wpAnyH P md ops.toArray Q S (fuel + 1) listed a w :=
  wpAnyH_ready hr (by simp) (AllReadyH.cons (drop_get ho) (fun K hK => by rw [if_pos hw]; exact h K hK) (AllReadyH.cons (drop_get ho') (fun K hK => by rw [if_pos hw']; exact h' K hK) AllReadyH.nil))
end
end Go.Proofs.YtogcbiooddodlaaDoor
