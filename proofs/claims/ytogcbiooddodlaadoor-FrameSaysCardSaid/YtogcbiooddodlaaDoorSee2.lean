/- Errors as plain data: whether an error is this one. -/
import Derived.Test.YtogcbiooddodlaaDoorSee
import Derived.Test.YtogcbiooddodlaaDoorRegions
namespace Go.Proofs.YtogcbiooddodlaaDoor
open Go.RowKit
set_option linter.unusedSimpArgs false

theorem zero_fault (w : World) : (zeroValue 35).run Tryd.prog w = .ok (faultV 0 false 0) w := by kernel_rfl

theorem fault_info : (Tryd.prog.info? 35).map (·.size) = some 3 := by kernel_rfl
/-- A struct result that lies in a block. -/
theorem ret_blk {P : Program} {fn : Func} {R : Ending → World → Prop} {a : Act} {w : World} {p : Tmp} {ty : TypeId} (h : fn.results = #[.cell p ty]) (g : Nat) (cs : List Value) (E : TypeId) (d : TypeDesc)
    (hp : a.tmps.getD p undef = .pointer (some ⟨g, 0, none⟩)) (hb : Blk w g cs E) (hu : P.underlying ty = some d) (hd : isAggDesc d = true) (hi : (P.info? ty).map (·.size) = some cs.length) (hdf : a.defers = [])
    (hR : R (.returned (.agg cs.toArray)) w) : bodyPost P fn R .ret a w :=
  bodyPost_ret (results_cell_row h a.tmps w g E cs.toArray (0, 0) d hp hb hu (by cases d <;> simp_all [isAggDesc]) (by simpa using hi)) hdf hR
theorem ret_fault {fn : Func} {R : Ending → World → Prop} {a : Act} {w : World} {p : Tmp} (h : fn.results = #[.cell p 35]) (g : Nat) (x y z : Value) (E : TypeId)
    (hp : a.tmps.getD p undef = .pointer (some ⟨g, 0, none⟩)) (hb : Blk w g [x, y, z] E) (hdf : a.defers = []) (hR : R (.returned (.agg #[x, y, z])) w) : bodyPost Tryd.prog fn R .ret a w :=
  ret_blk h g [x, y, z] E _ hp hb Tryd.underlying35 rfl fault_info hdf hR

theorem bare_any (code : Int) (w : World) : Calls Tryd.prog 55 #[.int .i64 code] w fun e w' => e = .returned (faultV code false 0) ∧ Below w.heap.size w w' := by
  have hz := zero_fault
  go_enter Tryd.func55, Tryd.ntmps55
  go_wp2
  exact bodyPost_ret (v := faultV code false 0) (by simp [results, Tryd.results55, go_sem]) rfl ⟨rfl, (Below.refl _ _).alloc (Nat.le_refl _) _⟩

theorem noFault_any (w : World) : Calls Tryd.prog 49 #[] w fun e w' => e = .returned (faultV 0 false 0) ∧ Below w.heap.size w w' := by
  have hz := zero_fault
  go_enter Tryd.func49, Tryd.ntmps49
  go_wp2
  exact bodyPost_ret (v := faultV 0 false 0) (by simp [results, Tryd.results49, go_sem]) rfl ⟨rfl, (Below.refl _ _).alloc (Nat.le_refl _) _⟩

theorem sameFault_bare (c1 c2 : Int) (w : World) : Calls Tryd.prog 47 #[faultV c1 false 0, faultV c2 false 0] w (SaysBool w (c1 == c2)) := by
  have hl : w.heap.size + 1 < ((w.alloc (.cells #[.int .i64 c1, .bool false, .int .i64 0] 35)).alloc (.cells #[.int .i64 c2, .bool false, .int .i64 0] 35)).heap.size := by simp
  cases h : (c1 == c2)
  all_goals
    go_enter Tryd.func47, Tryd.ntmps47
    go_wp2
    go_ret
    exact ⟨rfl, ((Below.refl _ _).alloc (Nat.le_refl _) _).alloc (by simp) _⟩

theorem store_fault {w w1 : World} {b : Nat} {x y z : Value} {E : TypeId} (hF : Blk w1 b [x, y, z] E) {B : Nat} (hB : Below B w w1) (hlt : B ≤ b := by exact Nat.le_refl _) : ∀ x' y' z',
    Blk (((w1.setCell ⟨b, 0, none⟩ x').setCell ⟨b, 1, none⟩ y').setCell ⟨b, 2, none⟩ z') b [x', y', z'] E ∧ Below B w (((w1.setCell ⟨b, 0, none⟩ x').setCell ⟨b, 1, none⟩ y').setCell ⟨b, 2, none⟩ z') := fun x' y' z' =>
  ⟨((hF.set 0 x').set 1 y').set 2 z', ((hB.setCell hlt _).setCell hlt _).setCell hlt _⟩

set_option maxHeartbeats 800000 in
theorem fault_nil (w : World) : Calls Tryd.prog 48 #[.nilIface] w fun e w' => e = .returned (faultV 0 false 0) ∧ Below w.heap.size w w' := by
  have hz := zero_fault
  go_enter Tryd.func48, Tryd.ntmps48
  go_wp2_with fail
  obtain ⟨w0, hw0⟩ : ∃ w0, w0 = w.alloc (.cells #[.int .i64 0, .bool false, .int .i64 0] 35) := ⟨_, rfl⟩
  have hF0 : Blk w0 w.heap.size [.int .i64 0, .bool false, .int .i64 0] 35 := by rw [hw0]; exact Blk.new w _ _
  have hB0 : Below w.heap.size w w0 := by rw [hw0]; exact (Below.refl _ _).alloc (Nat.le_refl _) _
  rw [← hw0]
  clear hw0
  refine (noFault_any _).mono ?_
  rintro e w1 ⟨rfl, hb1⟩
  have hF1 := (Eff.of_below (S := fun _ => False) hb1).blk hF0 (fun h => h)
  have hB1 := hB0.trans (hb1.mono hB0.size)
  have hf : ∀ o, w1.frozen? ⟨w.heap.size, o, none⟩ = false := hF1.frozen
  have c0 : w1.cell? ⟨w.heap.size, 0, none⟩ = some (.int .i64 0) := hF1.cell 0
  have c1 : w1.cell? ⟨w.heap.size, 1, none⟩ = some (.bool false) := hF1.cell 1
  have c2 : w1.cell? ⟨w.heap.size, 2, none⟩ = some (.int .i64 0) := hF1.cell 2
  have hp := store_fault hF1 hB1
  clear hF0 hB0 hb1 hF1 hB1
  go_wp2
  refine ret_fault Tryd.results48 w.heap.size (.int .i64 0) (.bool false) (.int .i64 0) _ (by rfl) (hp _ _ _).1 (by rfl) ?_
  exact ⟨rfl, (hp _ _ _).2⟩

theorem not_at (w : World) (a : Addr) : (Instr.typeAssert (.iface 136 (.pointer (some a))) 32 106 true).run Tryd.prog w = .ok (.tuple #[.pointer none, .bool false]) w := by kernel_rfl

set_option maxHeartbeats 800000 in
theorem fault_bare {ad : Int → Addr} {k : Int} {w : World} (hE : Errs ad w) (hk : IsErr k) : Calls Tryd.prog 48 #[.iface 136 (.pointer (some (ad k)))] w fun e w' => e = .returned (faultV k false 0) ∧ Below w.heap.size w w' := by
  have hz := zero_fault
  have hna := fun w => not_at w (ad k)
  go_enter Tryd.func48, Tryd.ntmps48
  go_wp2_with fail
  obtain ⟨w0, hw0⟩ : ∃ w0, w0 = w.alloc (.cells #[.int .i64 0, .bool false, .int .i64 0] 35) := ⟨_, rfl⟩
  have hF0 : Blk w0 w.heap.size [.int .i64 0, .bool false, .int .i64 0] 35 := by rw [hw0]; exact Blk.new w _ _
  have hB0 : Below w.heap.size w w0 := by rw [hw0]; exact (Below.refl _ _).alloc (Nat.le_refl _) _
  rw [← hw0]
  clear hw0
  refine (sentinel_any (hE.below hB0) hk).mono ?_
  rintro e w1 ⟨rfl, hb1⟩
  have hF1 := (Eff.of_below (S := fun _ => False) hb1).blk hF0 (fun h => h)
  have hB1 := hB0.trans (hb1.mono hB0.size)
  clear hF0 hB0 hb1
  go_wp2_with fail
  refine (bare_any _ _).mono ?_
  rintro e w2 ⟨rfl, hb2⟩
  have hF2 := (Eff.of_below (S := fun _ => False) hb2).blk hF1 (fun h => h)
  have hB2 := hB1.trans (hb2.mono hB1.size)
  have hf : ∀ o, w2.frozen? ⟨w.heap.size, o, none⟩ = false := hF2.frozen
  have c0 : w2.cell? ⟨w.heap.size, 0, none⟩ = some (.int .i64 0) := hF2.cell 0
  have c1 : w2.cell? ⟨w.heap.size, 1, none⟩ = some (.bool false) := hF2.cell 1
  have c2 : w2.cell? ⟨w.heap.size, 2, none⟩ = some (.int .i64 0) := hF2.cell 2
  have hp := store_fault hF2 hB2
  clear hF1 hB1 hb2 hF2 hB2
  go_wp2
  refine ret_fault Tryd.results48 w.heap.size (.int .i64 k) (.bool false) (.int .i64 0) _ (by rfl) (hp _ _ _).1 (by rfl) ?_
  exact ⟨rfl, (hp _ _ _).2⟩

/-- An error without a place, or none. -/
def Bare (k : Int) : Prop := k = 0 ∨ IsErr k
theorem fault_any {ad : Int → Addr} {k : Int} {w : World} (hE : Errs ad w) (hk : Bare k) : Calls Tryd.prog 48 #[errV ad k] w fun e w' => e = .returned (faultV k false 0) ∧ Below w.heap.size w w' := by
  rcases hk with rfl | hk
  · exact fault_nil w
  · rw [errV_ne ad (by have := hk.pos; omega)]
    exact fault_bare hE hk

set_option maxHeartbeats 800000 in
theorem same_any {ad : Int → Addr} {k code : Int} {w : World} (hE : Errs ad w) (hk : Bare k) : Calls Tryd.prog 20 #[errV ad k, faultV code false 0] w (SaysBool w (k == code)) := by
  go_enter Tryd.func20, Tryd.ntmps20
  go_wp2_with fail
  obtain ⟨w0, hw0⟩ : ∃ w0, w0 = w.alloc (.cells #[.int .i64 code, .bool false, .int .i64 0] 35) := ⟨_, rfl⟩
  have hF0 : Blk w0 w.heap.size [.int .i64 code, .bool false, .int .i64 0] 35 := by rw [hw0]; exact Blk.new w _ _
  have hB0 : Below w.heap.size w w0 := by rw [hw0]; exact (Below.refl _ _).alloc (Nat.le_refl _) _
  have hE0 := hE.below hB0
  rw [← hw0]
  clear hw0 hE
  have hE0' := hE0.drew
  have hlt : w.heap.size < w0.drew.heap.size := hF0.lt
  have c0 : w0.drew.cell? ⟨w.heap.size, 0, none⟩ = some (.int .i64 code) := hF0.cell 0
  have c1 : w0.drew.cell? ⟨w.heap.size, 1, none⟩ = some (.bool false) := hF0.cell 1
  have c2 : w0.drew.cell? ⟨w.heap.size, 2, none⟩ = some (.int .i64 0) := hF0.cell 2
  clear hF0
  go_region_held3 (fun w' => w'.cell? ⟨w.heap.size, 0, none⟩ = some (.int .i64 code) ∧ w'.cell? ⟨w.heap.size, 1, none⟩ = some (.bool false) ∧ w'.cell? ⟨w.heap.size, 2, none⟩ = some (.int .i64 0))
    (first
      | exact ⟨c0, c1, c2⟩
      | exact ⟨(hb1.cell (p := ⟨w.heap.size, 0, none⟩) hlt).trans c0, (hb1.cell (p := ⟨w.heap.size, 1, none⟩) hlt).trans c1, (hb1.cell (p := ⟨w.heap.size, 2, none⟩) hlt).trans c2⟩
      | exact ⟨(hb2.cell (p := ⟨w.heap.size, 0, none⟩) (Nat.lt_of_lt_of_le hlt hb1.size)).trans ((hb1.cell (p := ⟨w.heap.size, 0, none⟩) hlt).trans c0), (hb2.cell (p := ⟨w.heap.size, 1, none⟩) (Nat.lt_of_lt_of_le hlt hb1.size)).trans ((hb1.cell (p := ⟨w.heap.size, 1, none⟩) hlt).trans c1), (hb2.cell (p := ⟨w.heap.size, 2, none⟩) (Nat.lt_of_lt_of_le hlt hb1.size)).trans ((hb1.cell (p := ⟨w.heap.size, 2, none⟩) hlt).trans c2)⟩)
    (first
      | (go_at_call 48; refine (fault_any hE0' hk).mono ?_; rintro e w1 ⟨rfl, hb1⟩)
      | (go_at_call 47; refine (sameFault_bare _ _ _).mono ?_; rintro e w2 ⟨rfl, hb2⟩))
  go_wp2
  go_ret
  have hB1 := hB0.drew.trans (hb1.mono hB0.size)
  exact ⟨rfl, hB1.trans (hb2.mono hB1.size)⟩

theorem is_any {ad : Int → Addr} {k : Int} (code : Int) {w : World} (hE : Errs ad w) (hk : Bare k) : Calls Tryd.prog 34 #[errV ad k, .int .i64 code] w (SaysBool w (k == code)) := by
  go_enter Tryd.func34, Tryd.ntmps34
  go_wp2_with fail
  refine (bare_any _ _).mono ?_
  rintro e w1 ⟨rfl, hb1⟩
  have hE1 := hE.below hb1
  go_wp2_with fail
  refine (same_any hE1 hk).mono ?_
  rintro e w2 ⟨rfl, hb2⟩
  go_wp2_with fail
  go_ret
  exact ⟨rfl, hb1.trans (hb2.mono hb1.size)⟩
end Go.Proofs.YtogcbiooddodlaaDoor
