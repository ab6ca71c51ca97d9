/- Arguments opened to plain data: a slice whose elements are read by a law of their own. No program in sight. -/
import Derived.Test.YtogcbiooddodlaaDoorLib
import Derived.ProofKit
import Derived.Deep.Slices
namespace Go.Proofs.YtogcbiooddodlaaDoor
open Go.RowKit Go.Deep Go.ChangeShapes Go.WideShapes

theorem addr_add (a : Addr) (i j : Nat) (h : a.spot = none) : (a.add i).add j = ⟨a.block, a.off + (i + j), none⟩ := by
  obtain ⟨b, o, s⟩ := a
  simp only at h
  subst h
  unfold Addr.add
  split <;> split <;> simp_all <;> omega
theorem spot_none {w : World} {a : Addr} {v : Value} (h : w.cell? a = some v) : a.spot = none := by
  simp only [World.cell?] at h
  split at h
  · split at h
    · cases h
    · rename_i hs
      simpa using hs
  · cases h

section
variable {H : Type} {enc : TypeId × Value → H} {P : Program} {w : World} {base : Nat} {spare : Nat → Bool} {held : Bool} {α : Type}
theorem open_rows {t e : TypeId} (ht : P.underlying t = some (.slice e)) (f : α → List Value) (G : α → Prop) (s : Nat) (hs0 : 0 < s) (hs : ∀ x, (f x).length = s) (hC : P.cellsOf e = s)
    (he : ∀ n cs x, DataW.trod enc P w base spare held n e cs = some x → ∃ d, cs = f d ∧ G d) {fuel : Nat} {cs : List Value} {x : DataW H × List MemPlace} (h : DataW.trod enc P w base spare held fuel t cs = some x) :
    ∃ (A : Option Addr) (len cap : Nat) (ds : List α), cs = [.slice A len cap] ∧ len = ds.length ∧ len ≤ cap ∧ cap ≤ maxLen ∧ Sl w A (ds.flatMap f) ∧ ∀ d ∈ ds, G d := by
  rcases open_slice ht h with ⟨rfl, _⟩ | ⟨a, len, cap, m, n, D, Pl, rfl, hb, hl, hm, hmm, hx, hi⟩
  · exact ⟨none, 0, 0, [], rfl, rfl, Nat.le_refl _, Nat.zero_le _, .inl rfl, fun d h => by cases h⟩
  have hlm : len ≤ m := by rw [hmm]; split <;> omega
  have key : ∀ i, i < len → ∃ d, (∀ j, j < s → w.cell? ((a.add (i * s)).add j) = (f d)[j]?) ∧ G d := by
    intro i hi'
    obtain ⟨cs', hc, ht'⟩ := hi i (by omega)
    obtain ⟨_, hcl, hat⟩ := World.cells?_some hc
    obtain ⟨d, rfl, hg⟩ := he n cs' _ ht'
    rw [hC] at hat
    exact ⟨d, hat, hg⟩
  by_cases h0 : len = 0
  · subst h0
    exact ⟨some a, 0, cap, [], rfl, rfl, hl, hm, .inl rfl, fun d h => by cases h⟩
  obtain ⟨d0, k0, _⟩ := key 0 (by omega)
  have hne : ∃ v, (f d0)[0]? = some v := ⟨(f d0)[0]'(by rw [hs]; exact hs0), List.getElem?_eq_getElem _⟩
  obtain ⟨v0, hv0⟩ := hne
  have c0 := k0 0 hs0
  rw [hv0, Nat.zero_mul, show (a.add 0).add 0 = a from by simp [Addr.add]] at c0
  have hsp := spot_none c0
  obtain ⟨F, hF⟩ : ∃ F : Nat → α, ∀ i, i < len → (∀ j, j < s → w.cell? ((a.add (i * s)).add j) = (f (F i))[j]?) ∧ G (F i) := by
    refine ⟨fun i => if hi : i < len then Classical.choose (key i hi) else d0, fun i hi => ?_⟩
    simp only [hi, dif_pos]
    exact Classical.choose_spec (key i hi)
  refine ⟨some a, len, cap, (List.range len).map F, rfl, by simp, hl, hm, .inr ⟨a.block, a.off, ?_, World.block_lt_of_cell? w _ c0, fun k hk => ?_⟩, fun d hd => ?_⟩
  · obtain ⟨b, o, sp⟩ := a
    simp only at hsp
    rw [hsp]
  · rw [flat_length hs, List.length_map, List.length_range] at hk
    have hk1 : k / s < len := (Nat.div_lt_iff_lt_mul hs0).2 hk
    have hk2 : k % s < s := Nat.mod_lt _ hs0
    have e : k = k / s * s + k % s := by rw [Nat.mul_comm]; exact (Nat.div_add_mod k s).symm
    have h1 := (hF (k / s) hk1).1 (k % s) hk2
    rw [addr_add a _ _ hsp, ← e] at h1
    rw [h1]
    have h2 := flat_get (f := f) hs ((List.range len).map F) [] (k / s) (k % s) (F (k / s)) (by simp [hk1]) hk2
    rw [← e] at h2
    simpa using h2.symm
  · simp only [List.mem_map, List.mem_range] at hd
    obtain ⟨i, hi', rfl⟩ := hd
    exact (hF i hi').2

/-- A struct type's fields: each one's type, and where it begins. -/
def fieldRow (P : Program) (t : TypeId) : Option (List (TypeId × Nat)) :=
  match P.underlying t with
  | some (.struct fs) => some (fs.toList.map fun f => (f.type, f.offset))
  | _ => none
theorem open_struct {t : TypeId} {L : List (TypeId × Nat)} (hr : fieldRow P t = some L) {fuel : Nat} {cs : List Value} {x : DataW H × List MemPlace} (h : DataW.trod enc P w base spare held fuel t cs = some x) :
    cs.length = P.cellsOf t ∧ ∃ n : Nat, ∀ (j : Nat) (p : TypeId × Nat), L[j]? = some p → ∃ y, DataW.trod enc P w base spare held n p.1 ((cs.drop p.2).take (P.cellsOf p.1)) = some y := by
  unfold fieldRow at hr
  split at hr
  · rename_i fs hu
    simp only [Option.some.injEq] at hr
    subst hr
    obtain ⟨xs, n, _, _, hl, hlx, hf⟩ := DataW.trod_struct hu h
    refine ⟨hl, n, fun j p hj => ?_⟩
    rw [List.getElem?_map] at hj
    obtain ⟨f, hj', rfl⟩ := Option.map_eq_some_iff.1 hj
    have hj2 : fs[j]? = some f := by simpa using hj'
    have hlt : j < xs.length := by
      rw [hlx]
      exact (Array.getElem?_eq_some_iff.1 hj2).1
    exact ⟨xs[j], (hf j f hj2).trans (List.getElem?_eq_getElem hlt)⟩
  · cases hr
end
theorem list1 {α : Type} {l : List α} (h : l.length = 1) : ∃ a, l = [a] := by
  match l, h with
  | [a], _ => exact ⟨a, rfl⟩
theorem list2 {α : Type} {l : List α} (h : l.length = 2) : ∃ a b, l = [a, b] := by
  match l, h with
  | [a, b], _ => exact ⟨a, b, rfl⟩
theorem list3 {α : Type} {l : List α} (h : l.length = 3) : ∃ a b c, l = [a, b, c] := by
  match l, h with
  | [a, b, c], _ => exact ⟨a, b, c, rfl⟩
theorem list4 {α : Type} {l : List α} (h : l.length = 4) : ∃ a b c d, l = [a, b, c, d] := by
  match l, h with
  | [a, b, c, d], _ => exact ⟨a, b, c, d, rfl⟩
theorem list5 {α : Type} {l : List α} (h : l.length = 5) : ∃ a b c d e, l = [a, b, c, d, e] := by
  match l, h with
  | [a, b, c, d, e], _ => exact ⟨a, b, c, d, e, rfl⟩
theorem list8 {α : Type} {l : List α} (h : l.length = 8) : ∃ a b c d e f g i, l = [a, b, c, d, e, f, g, i] := by
  match l, h with
  | [a, b, c, d, e, f, g, i], _ => exact ⟨a, b, c, d, e, f, g, i, rfl⟩
end Go.Proofs.YtogcbiooddodlaaDoor
