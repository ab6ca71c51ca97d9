/- FrameRings: the rings of the statement as plain data; what is amiss with each. -/
import Derived.Test.YtogcbiooddodlaaDoorFrameRows
namespace Go.Proofs.YtogcbiooddodlaaDoor
open Go.RowKit
set_option linter.unusedSimpArgs false

/-- An entry without the place of its bids. -/
def EntL.strip (e : EntL) : EntL := ⟨e.floor, e.dir, e.gen, e.award, e.bids, none, 0⟩
theorem entE_strip (ms : List Int) (p : Option EntL) (e : EntL) : entE ms (p.map EntL.strip) e.strip = entE ms p e := by cases p <;> rfl
theorem entAt_strip (ms : List Int) (es : List EntL) (k : Nat) : entAt ms (es.map EntL.strip) k = entAt ms es k := by
  unfold entAt
  rw [List.getElem?_map, List.getElem?_map]
  cases es[k]? with
  | none => rfl
  | some e =>
    simp only [Option.map_some]
    rw [← entE_strip ms (if k = 0 then none else es[k - 1]?) e]
    congr 1
    split <;> rfl
theorem entsE_strip (ms : List Int) (es : List EntL) : ∀ n k, entsE ms (es.map EntL.strip) k n = entsE ms es k n := by
  intro n
  induction n with
  | zero => intro k; rfl
  | succ n ih => intro k; rw [entsE, entsE, entAt_strip, ih]
theorem frameE_strip (kind fr tt life seen : Int) (out : Bool) (count founder hop : Int) (ms : List Int) (es : List EntL) : frameE kind fr tt life seen out count founder hop ms (es.map EntL.strip) = frameE kind fr tt life seen out count founder hop ms es := by
  unfold frameE tokE ringE
  rw [List.length_map, entsE_strip]
def memN (k : Nat) : List Int := (List.range k).map fun i : Nat => 2 * (i : Int)
theorem memN_len (k : Nat) : (memN k).length = k := by simp [memN]
theorem memN_succ (k : Nat) : memN (k + 1) = memN k ++ [2 * (k : Int)] := by simp [memN, List.range_succ]
def entN (k : Nat) : List EntL := (List.range k).map fun i : Nat => ⟨i, 1, 1, -1, [(0, (i : Int)), (2, 5)], none, 0⟩
theorem entN_succ (k : Nat) : entN (k + 1) = entN k ++ [⟨k, 1, 1, -1, [(0, (k : Int)), (2, 5)], none, 0⟩] := by simp [entN, List.range_succ]
theorem entN_len {k : Nat} {es : List EntL} (h : es.map EntL.strip = entN k) : es.length = k := by
  have := congrArg List.length h
  simpa [entN] using this
theorem entN_at {k j : Nat} {es : List EntL} (h : es.map EntL.strip = entN k) (hj : j < k) : ∃ A c, es[j]? = some ⟨j, 1, 1, -1, [(0, (j : Int)), (2, 5)], A, c⟩ := by
  have h1 : (es.map EntL.strip)[j]? = some ⟨j, 1, 1, -1, [(0, (j : Int)), (2, 5)], none, 0⟩ := by rw [h]; simp [entN, hj]
  rw [List.getElem?_map] at h1
  cases he : es[j]? with
  | none => rw [he] at h1; simp at h1
  | some e =>
    rw [he] at h1
    simp only [Option.map_some, Option.some.injEq] at h1
    obtain ⟨fl, di, ge, aw, bids, A, c⟩ := e
    simp only [EntL.strip, EntL.mk.injEq] at h1
    obtain ⟨rfl, rfl, rfl, rfl, rfl, _⟩ := h1
    exact ⟨A, c, rfl⟩
section
variable {N : Nat} {es : List EntL} {A A' : Option Addr} {c c' : Nat} (hN : 2 ≤ N ∧ N ≤ 6)
include hN
theorem five : N = 2 ∨ N = 3 ∨ N = 4 ∨ N = 5 ∨ N = 6 := by omega
theorem rings_ok (h : es.map EntL.strip = entN N) : frameE 2 0 2 0 0 false 3 1 4 (memN N) es = 0 := by
  rw [← frameE_strip, h]
  rcases five hN with rfl | rfl | rfl | rfl | rfl <;> decide
theorem rings_0 (h : es.map EntL.strip = entN N) : frameE 2 0 2 0 0 false 3 1 4 ([4] ++ memN N) es = 111 := by
  rw [← frameE_strip, h]
  rcases five hN with rfl | rfl | rfl | rfl | rfl <;> decide
theorem rings_1 : frameE 2 0 2 0 0 false 3 1 4 (memN N) [⟨1, 1, 1, -1, [(0, 1), (2, 5)], A, c⟩, ⟨0, 1, 1, -1, [(0, 0), (2, 5)], A', c'⟩] = 111 := by
  rw [← frameE_strip]
  simp only [List.map_cons, List.map_nil, EntL.strip]
  rcases five hN with rfl | rfl | rfl | rfl | rfl <;> decide
theorem rings_2 : frameE 2 0 2 0 0 false 3 1 4 (memN N) [⟨0, 1, 1, -1, [(1, 0)], A, c⟩] = 103 := by
  rw [← frameE_strip]
  simp only [List.map_cons, List.map_nil, EntL.strip]
  rcases five hN with rfl | rfl | rfl | rfl | rfl <;> decide
theorem rings_3 : frameE 2 0 2 0 0 false 3 1 4 (memN N) [⟨0, 1, 1, 1, [], A, c⟩] = 103 := by
  rw [← frameE_strip]
  simp only [List.map_cons, List.map_nil, EntL.strip]
  rcases five hN with rfl | rfl | rfl | rfl | rfl <;> decide
theorem rings_4 : frameE 2 0 2 0 0 false 3 1 4 (memN N) [⟨0, 1, 1, -1, [(2, 0), (0, 0)], A, c⟩] = 111 := by
  rw [← frameE_strip]
  simp only [List.map_cons, List.map_nil, EntL.strip]
  rcases five hN with rfl | rfl | rfl | rfl | rfl <;> decide
theorem rings_5 (h : es.map EntL.strip = entN N) : frameE 2 0 2 0 0 false 3 1 4 [] es = 104 := by
  rw [← frameE_strip, h]
  rcases five hN with rfl | rfl | rfl | rfl | rfl <;> decide
theorem rings_6 (h : es.map EntL.strip = entN N) : frameE 2 0 2 0 0 false 0 1 4 (memN N) es = 103 := by
  rw [← frameE_strip, h]
  rcases five hN with rfl | rfl | rfl | rfl | rfl <;> decide
theorem rings_7 (h : es.map EntL.strip = entN N) : frameE 2 0 2 0 1 false 3 1 4 (memN N) es = 103 := by
  rw [← frameE_strip, h]
  rcases five hN with rfl | rfl | rfl | rfl | rfl <;> decide
theorem rings_8 : frameE 2 0 2 0 0 false 3 1 4 (memN N) [⟨1, 0, 1, -1, [], A, c⟩] = 103 := by
  rw [← frameE_strip]
  simp only [List.map_cons, List.map_nil, EntL.strip]
  rcases five hN with rfl | rfl | rfl | rfl | rfl <;> decide
theorem rings_9 : frameE 2 0 2 0 0 false 3 1 4 (memN N) [⟨1, 1, 0, -1, [], A, c⟩] = 103 := by
  rw [← frameE_strip]
  simp only [List.map_cons, List.map_nil, EntL.strip]
  rcases five hN with rfl | rfl | rfl | rfl | rfl <;> decide
end
end Go.Proofs.YtogcbiooddodlaaDoor
