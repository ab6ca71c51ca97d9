/- GateOnce: the plain law: what was taken is not taken again. -/
import Derived.Test.YtioaapgpcpepmaaGateWalks2
namespace Go.Proofs.Ytioaapgpcpepmaa

/-- t is not newer than (c, f, hop). -/
def UpTo (t : RingL) (c f hop : Int) : Prop := t.c < c ∨ (t.c = c ∧ (t.f < f ∨ (t.f = f ∧ t.hop ≤ hop)))
theorem upTo_self (r : RingL) : UpTo r r.c r.f r.hop := .inr ⟨rfl, .inr ⟨rfl, Int.le_refl _⟩⟩
theorem newer_iff (g : Gt) (c f hop : Int) : g.newer c f hop = true ↔ (g.c < c ∨ (g.c = c ∧ (g.f < f ∨ (g.f = f ∧ g.hop < hop)))) := by
  simp [Gt.newer, lessE, sameE]
  omega
theorem would_not {g : Gt} {t : RingL} (h : UpTo t g.c g.f g.hop) (car : Int) : g.would car car t = false := by
  have hn : g.newer t.c t.f t.hop = false := by
    cases e : g.newer t.c t.f t.hop with
    | false => rfl
    | true =>
      have := (newer_iff _ _ _ _).1 e
      unfold UpTo at h
      omega
  simp [Gt.would, hn]
theorem would_self (g : Gt) (car : Int) (r : RingL) : (g.to r.c r.f r.hop).would car car r = false := would_not (upTo_self r) car
theorem would_newer {g : Gt} {car : Int} {r : RingL} (h : g.would car car r = true) : g.newer r.c r.f r.hop = true := by
  simp [Gt.would] at h
  exact h.2
theorem would_among {g : Gt} {car : Int} {r : RingL} (h : g.would car car r = true) : car ∈ r.ms := by
  simp [Gt.would] at h
  exact h.1.1
theorem would_above {g : Gt} {car : Int} {r : RingL} (h : g.would car car r = true) : g.floor < r.c := by
  simp [Gt.would, Gt.aboveB] at h
  omega
theorem upTo_mono {g : Gt} {t : RingL} {c f hop : Int} (h : UpTo t g.c g.f g.hop) (hn : g.newer c f hop = true) : UpTo t c f hop ∧ (lessE t.c t.f c f || (sameE t.c t.f c f && decide (t.hop < hop))) = true := by
  have := (newer_iff _ _ _ _).1 hn
  unfold UpTo at *
  simp [lessE, sameE]
  omega
end Go.Proofs.Ytioaapgpcpepmaa
