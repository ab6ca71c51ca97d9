/- The listed error variables: where they lie, what each holds, and that no two hold one pointer. -/
import Derived.Test.YtogcbiooddodlaaDoorLib
import Derived.Test.YtogcbiooddodlaaDoorRows
import Derived.Stop.LaidErr
import Derived.LaidEql
namespace Go.Proofs.YtogcbiooddodlaaDoor
open Go.RowKit

def SaysBool (w : World) (b : Bool) (e : Ending) (w' : World) : Prop := e = .returned (.bool b) ∧ Below w.heap.size w w'
theorem ret_bool {a b : Bool} (h : a = b) : Ending.returned (.bool a) = .returned (.bool b) := by rw [h]
theorem ret_int {k : IntKind} {a b : Int} (h : a = b) : Ending.returned (.int k a) = .returned (.int k b) := by rw [h]

/-- An error by its number: none at 0. -/
def errV (ad : Int → Addr) (k : Int) : Value := if k = 0 then .nilIface else .iface 136 (.pointer (some (ad k)))
theorem errV_zero (ad : Int → Addr) : errV ad 0 = .nilIface := rfl
theorem errV_ne (ad : Int → Addr) {k : Int} (h : k ≠ 0) : errV ad k = .iface 136 (.pointer (some (ad k))) := if_neg h

/-- The four that cells and stores hand on. -/
structure Errs4 (ad : Int → Addr) (w : World) : Prop where
  range : w.cell? ⟨0, 0, none⟩ = some (.iface 136 (.pointer (some (ad 103))))
  power : w.cell? ⟨6, 0, none⟩ = some (.iface 136 (.pointer (some (ad 105))))
  none_ : w.cell? ⟨7, 0, none⟩ = some (.iface 136 (.pointer (some (ad 106))))
  order : w.cell? ⟨8, 0, none⟩ = some (.iface 136 (.pointer (some (ad 108))))

/-- All of them: their numbers, the variables. -/
def errTab : List (Int × Nat) := [(101, 1), (102, 3), (103, 0), (104, 4), (105, 6), (106, 7), (107, 2), (108, 8),
  (109, 9), (110, 10), (111, 5), (112, 11), (113, 12)]
structure Errs (ad : Int → Addr) (w : World) : Prop where
  cell : ∀ x ∈ errTab, w.cell? ⟨x.2, 0, none⟩ = some (.iface 136 (.pointer (some (ad x.1))))
  heap : ∀ x ∈ errTab, ∃ c t, w.heap[(ad x.1).block]? = some (.cells c t (0, 0))
  ne : ∀ x ∈ errTab, ∀ y ∈ errTab, x.1 ≠ y.1 → ad x.1 ≠ ad y.1

section
variable {ad : Int → Addr} {w w' : World}
theorem Errs.four (h : Errs ad w) : Errs4 ad w :=
  ⟨h.cell (103, 0) (by decide), h.cell (105, 6) (by decide), h.cell (106, 7) (by decide), h.cell (108, 8) (by decide)⟩
theorem lt_of_cell {p : Addr} {v : Value} (h : w.cell? p = some v) : p.block < w.heap.size := World.block_lt_of_cell? w p h
theorem Errs4.below (h : Errs4 ad w) (hb : Below w.heap.size w w') : Errs4 ad w' :=
  ⟨(hb.cell (lt_of_cell h.range)).trans h.range, (hb.cell (lt_of_cell h.power)).trans h.power, (hb.cell (lt_of_cell h.none_)).trans h.none_, (hb.cell (lt_of_cell h.order)).trans h.order⟩
theorem Errs.below (h : Errs ad w) (hb : Below w.heap.size w w') : Errs ad w' :=
  ⟨fun x hx => (hb.cell (lt_of_cell (h.cell x hx))).trans (h.cell x hx), fun x hx => by
    obtain ⟨c, t, e⟩ := h.heap x hx
    exact ⟨c, t, by rw [hb.block _ (Array.getElem?_eq_some_iff.1 e).1, e]⟩, h.ne⟩
theorem Errs4.drew (h : Errs4 ad w) : Errs4 ad w.drew := ⟨h.range, h.power, h.none_, h.order⟩
theorem Errs.drew (h : Errs ad w) : Errs ad w.drew := ⟨h.cell, h.heap, h.ne⟩

/-- A block whose first cell holds no error is none of the variables. -/
theorem blk_not_var {b g : Nat} {cs : List Value} {E : TypeId} {T : TypeId} {v u : Value} (hb : Blk w b cs E) (hc : w.cell? ⟨g, 0, none⟩ = some (.iface T v)) (hu : cs[0]? = some u) (hne : ∀ v, u ≠ .iface T v) : g ≠ b := by
  rintro rfl
  rw [hb.cell, hu] at hc
  exact hne v (Option.some.inj hc)
theorem Errs4.eff {b : Nat} (h : Errs4 ad w) (he : Eff (· = b) w w') (hn : ∀ g v, w.cell? ⟨g, 0, none⟩ = some (.iface 136 v) → g ≠ b) : Errs4 ad w' :=
  ⟨(he.cell (lt_of_cell h.range) (hn _ _ h.range)).trans h.range, (he.cell (lt_of_cell h.power) (hn _ _ h.power)).trans h.power, (he.cell (lt_of_cell h.none_) (hn _ _ h.none_)).trans h.none_,
    (he.cell (lt_of_cell h.order) (hn _ _ h.order)).trans h.order⟩
end

/-! Out of the row's cell 'laid'. -/
theorem row_errorString (u : TypeId) (h : Tryd.prog.typeName? 3 u = some "*errors.errorString") : u = 136 :=
  typeName_ptr_named (nm := "errors.errorString") (by rw [show "*" ++ "errors.errorString" = "*errors.errorString" from by decide]; kernel_rfl) (by kernel_rfl) (by decide) u (by rw [show "*" ++ "errors.errorString" = "*errors.errorString" from by decide]; exact h)
theorem cells_errorString : Tryd.prog.cellsOf 153 = 1 := by kernel_rfl
theorem cells_string : Tryd.prog.cellsOf 9 = 1 := by kernel_rfl
abbrev laidOne (x : String × List UInt8) : String × DataW Unit := (x.1, .iface "*errors.errorString" (.ptr (.agg [.lit (.string x.2)])))

set_option maxRecDepth 100000 in
/-- Each listed variable holds a pointer, no two the same, each to a block that may be written. -/
theorem sentinels (gn : String → Nat) : ∀ (L : List (String × List UInt8)) (W : World), (∀ x ∈ L, Tryd.prog.globalNamed x.1 = some (gn x.1) ∧ (Tryd.prog.globals[gn x.1]?).map (·.type) = some 32) → laidMet Tryd.prog (L.map laidOne) W →
    ∃ ads : List Addr, ads.length = L.length ∧ ads.Nodup ∧ ∀ (i : Nat) x a, L[i]? = some x → ads[i]? = some a →
      W.cell? ⟨gn x.1, 0, none⟩ = some (.iface 136 (.pointer (some a))) ∧ ∃ c t, W.heap[a.block]? = some (.cells c t (0, 0)) := by
  intro L W hL ⟨ps, hv, hnd, hrows⟩
  suffices H : ∀ (L : List (String × List UInt8)) (ps : List MemPlace), (∀ x ∈ L, Tryd.prog.globalNamed x.1 = some (gn x.1) ∧ (Tryd.prog.globals[gn x.1]?).map (·.type) = some 32) → DataW.LaidVars Tryd.prog W (L.map laidOne) ps → ps.Nodup →
      (∀ b off, MemPlace.cell b off ∈ ps → (∃ c t, W.heap[b]? = some (.cells c t (0, 0))) ∧ ∀ u v, W.cell? ⟨b, off, none⟩ = some (.iface u v) → Value.okWide Tryd.prog W .any 0 u v) →
      ∃ ads : List Addr, ads.length = L.length ∧ ads.Nodup ∧ (∀ a ∈ ads, MemPlace.cell a.block a.off ∈ ps) ∧ ∀ (i : Nat) x a, L[i]? = some x → ads[i]? = some a →
        W.cell? ⟨gn x.1, 0, none⟩ = some (.iface 136 (.pointer (some a))) ∧ ∃ c t, W.heap[a.block]? = some (.cells c t (0, 0)) by
    obtain ⟨ads, h1, h2, _, h3⟩ := H L ps hL hv hnd hrows
    exact ⟨ads, h1, h2, h3⟩
  clear hL hv hnd hrows ps L
  intro L
  induction L with
  | nil => intro ps _ _ _ _; exact ⟨[], rfl, List.nodup_nil, (fun a h => by cases h), fun i x a h => by simp at h⟩
  | cons x L ih =>
    intro ps hL hv hnd hrows
    obtain ⟨g0, t0, cs0, f0, p0, q0, hg0, ht0, hv0, hd0, hq, rfl⟩ := hv
    obtain ⟨hx1, hx2⟩ := hL x (by simp)
    obtain rfl := Option.some.inj (hx1.symm.trans hg0)
    obtain rfl := Option.some.inj (hx2.symm.trans ht0)
    obtain ⟨l0⟩ := cs0
    have ok0 : ∀ u v, l0 = [.iface u v] → Value.okWide Tryd.prog W .any 0 u v := fun u v e => by
      subst e
      exact (hrows (gn x.1) 0 (by simp [MemPlace.row])).2 u v (by simpa using World.var?_cell hg0 hv0 0)
    obtain ⟨a0, s0, rfl, hc0, hs0, hz0, rfl⟩ := errorString_of_trod Tryd.underlying32 row_errorString Tryd.underlying136 Tryd.underlying153 rfl rfl Tryd.underlying9 cells_errorString cells_string hd0 ok0
    obtain ⟨ads, h1, h2, h4, h3⟩ := ih q0 (fun y hy => hL y (by simp [hy])) hq (List.Nodup.sublist (List.sublist_append_right _ _) hnd) (fun b off hm => hrows b off (List.mem_append_right _ hm))
    have hb0 := (hrows a0.block a0.off (by simp [MemPlace.row])).1
    refine ⟨a0 :: ads, by simp [h1], List.nodup_cons.2 ⟨fun hm => ?_, h2⟩, fun a ha => ?_, fun i y a hy ha => ?_⟩
    · have := h4 a0 hm
      rw [List.nodup_append] at hnd
      exact hnd.2.2 _ (by simp [MemPlace.row]) _ this rfl
    · rcases List.mem_cons.1 ha with rfl | ha
      · simp [MemPlace.row]
      · exact List.mem_append_right _ (h4 a ha)
    · cases i with
      | zero =>
        simp only [List.getElem?_cons_zero, Option.some.injEq] at hy ha
        subst hy ha
        exact ⟨by simpa using World.var?_cell hg0 hv0 0, hb0⟩
      | succ i => exact h3 i y a (by simpa using hy) (by simpa using ha)
end Go.Proofs.YtogcbiooddodlaaDoor
