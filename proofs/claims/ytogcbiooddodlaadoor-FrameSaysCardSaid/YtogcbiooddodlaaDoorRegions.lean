/- Steps through a region that draws its order, the operation taken out of the list as it is written: for walks that name each step. -/
import Derived.Test.YtogcbiooddodlaaDoorLib
import Derived.Deep.RegionHeld3
namespace Go.Proofs.YtogcbiooddodlaaDoor
open Go.RowKit
section
variable {P : Program} {ops : List Oper} {Q : Exit → Act → World → Prop} {md : Region.Mode} {S : World → Prop} {fuel : Nat} {listed : Array Bool} {a : Act} {w : World}
theorem drop_get {i : Nat} {o : Oper} {tail : List Oper} (h : ops.drop i = o :: tail) : ops.toArray[i]? = some o := by
  have h2 : (ops.drop i)[0]? = some o := by rw [h]; rfl
  rw [List.getElem?_drop] at h2
  simpa using h2
/-- What yields in every world that meets S is taken first. -/
theorem held_take (i : Nat) {o : Oper} {tail : List Oper} (v : Value) (ho : ops.drop i = o :: tail) (hs : Region.noSelect ops.toArray = true) (hf : Region.free md ops.toArray listed i = true)
    (hr : (Region.ready md ops.toArray listed).contains i = true) (hQ : ∀ c a w, Q (.panic c) (a.put o.dst v) w → Q (.panic c) a w)
    (hw : Region.wanted o (yielded ops.toArray a.tmps) = true) (hv : ∀ w, S w → (execOp a.eval o).run P w = .ok (.value v) w) (hS : S w)
    (h : wpAnyH P md ops.toArray Q S fuel (listed.setIfInBounds i true) (a.put o.dst v) w) : wpAnyH P md ops.toArray Q S (fuel + 1) listed a w :=
  wpAnyH_take (drop_get ho) hs hf hr hQ (Or.inl ⟨hw, hv⟩) hS h
/-- Whose guard says no is passed over. -/
theorem held_skip (i : Nat) {o : Oper} {tail : List Oper} (ho : ops.drop i = o :: tail) (hs : Region.noSelect ops.toArray = true) (hf : Region.free md ops.toArray listed i = true)
    (hr : (Region.ready md ops.toArray listed).contains i = true) (hQ : ∀ c a w, Q (.panic c) (a.put o.dst undef) w → Q (.panic c) a w)
    (hw : Region.wanted o (yielded ops.toArray a.tmps) = false) (hS : S w)
    (h : wpAnyH P md ops.toArray Q S fuel (listed.setIfInBounds i true) (a.put o.dst undef) w) : wpAnyH P md ops.toArray Q S (fuel + 1) listed a w :=
  wpAnyH_take (drop_get ho) hs hf hr hQ (Or.inr ⟨hw, rfl⟩) hS h
/-- The one operation that may come up is carried out. -/
theorem held_one (i : Nat) {o : Oper} {tail : List Oper} (ho : ops.drop i = o :: tail) (hr : Region.ready md ops.toArray listed = [i]) (hw : Region.wanted o (yielded ops.toArray a.tmps) = true)
    (h : ∀ K' : Act → World → Prop, Shut (∀ a w, S w → (S w → wpAnyH P md ops.toArray Q S fuel (listed.setIfInBounds i true) a w) → K' a w) → Oper.wp P o a w K' Q) :
    wpAnyH P md ops.toArray Q S (fuel + 1) listed a w :=
  wpAnyH_ready hr (by simp) (AllReadyH.cons (drop_get ho) (fun K hK => by rw [if_pos hw]; exact h K hK) AllReadyH.nil)
end
section
variable {P : Program} {ops : List Oper} {Q : Exit → Act → World → Prop} {md : Region.Mode} {fuel : Nat} {listed : Array Bool} {a : Act} {w : World}
/-! The same without a condition on the worlds: every order is walked where two operations that hang on memory may come up. -/
theorem any_take (i : Nat) {o : Oper} {tail : List Oper} (v : Value) (ho : ops.drop i = o :: tail) (hs : Region.noSelect ops.toArray = true) (hf : Region.free md ops.toArray listed i = true)
    (hr : (Region.ready md ops.toArray listed).contains i = true) (hQ : ∀ c a w, Q (.panic c) (a.put o.dst v) w → Q (.panic c) a w)
    (hw : Region.wanted o (yielded ops.toArray a.tmps) = true) (hv : ∀ w, (execOp a.eval o).run P w = .ok (.value v) w)
    (h : wpAny P md ops.toArray Q fuel (listed.setIfInBounds i true) (a.put o.dst v) w) : wpAny P md ops.toArray Q (fuel + 1) listed a w :=
  wpAny_take (drop_get ho) hs hf hr hQ (Or.inl ⟨hw, hv⟩) h
theorem any_skip (i : Nat) {o : Oper} {tail : List Oper} (ho : ops.drop i = o :: tail) (hs : Region.noSelect ops.toArray = true) (hf : Region.free md ops.toArray listed i = true)
    (hr : (Region.ready md ops.toArray listed).contains i = true) (hQ : ∀ c a w, Q (.panic c) (a.put o.dst undef) w → Q (.panic c) a w)
    (hw : Region.wanted o (yielded ops.toArray a.tmps) = false)
    (h : wpAny P md ops.toArray Q fuel (listed.setIfInBounds i true) (a.put o.dst undef) w) : wpAny P md ops.toArray Q (fuel + 1) listed a w :=
  wpAny_take (drop_get ho) hs hf hr hQ (Or.inr ⟨hw, rfl⟩) h
theorem any_one (i : Nat) {o : Oper} {tail : List Oper} (ho : ops.drop i = o :: tail) (hr : Region.ready md ops.toArray listed = [i]) (hw : Region.wanted o (yielded ops.toArray a.tmps) = true)
    (h : ∀ K' : Act → World → Prop, (∀ a w, wpAny P md ops.toArray Q fuel (listed.setIfInBounds i true) a w → K' a w) → Oper.wp P o a w K' Q) :
    wpAny P md ops.toArray Q (fuel + 1) listed a w :=
  wpAny_ready hr (by simp) (AllReady.cons (drop_get ho) (fun K hK => by rw [if_pos hw]; exact h K hK) AllReady.nil)
theorem any_two (i j : Nat) {o o' : Oper} {tail tail' : List Oper} (ho : ops.drop i = o :: tail) (ho' : ops.drop j = o' :: tail') (hr : Region.ready md ops.toArray listed = [i, j])
    (hw : Region.wanted o (yielded ops.toArray a.tmps) = true) (hw' : Region.wanted o' (yielded ops.toArray a.tmps) = true)
    (h : ∀ K' : Act → World → Prop, (∀ a w, wpAny P md ops.toArray Q fuel (listed.setIfInBounds i true) a w → K' a w) → Oper.wp P o a w K' Q)
    (h' : ∀ K' : Act → World → Prop, (∀ a w, wpAny P md ops.toArray Q fuel (listed.setIfInBounds j true) a w → K' a w) → Oper.wp P o' a w K' Q) :
    wpAny P md ops.toArray Q (fuel + 1) listed a w :=
  wpAny_ready hr (by simp) (AllReady.cons (drop_get ho) (fun K hK => by rw [if_pos hw]; exact h K hK) (AllReady.cons (drop_get ho') (fun K hK => by rw [if_pos hw']; exact h' K hK) AllReady.nil))
end
end Go.Proofs.YtogcbiooddodlaaDoor
