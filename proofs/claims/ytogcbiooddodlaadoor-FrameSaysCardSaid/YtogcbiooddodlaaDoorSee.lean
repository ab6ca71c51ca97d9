/- Errors as plain data: what the statements' helper hands back of an error without a place. -/
import Derived.Test.YtogcbiooddodlaaDoorErrs
namespace Go.Proofs.YtogcbiooddodlaaDoor
open Go.RowKit
set_option linter.unusedSimpArgs false

abbrev faultV (code : Int) (placed : Bool) (pos : Int) : Value := .agg #[.int .i64 code, .bool placed, .int .i64 pos]
theorem ptrErr_und : Tryd.prog.underlying 136 = some (.pointer 153) := Tryd.underlying136
theorem ptrErr_info : ((Tryd.prog.info? 136).map (·.comparable)) = some true := by kernel_rfl
theorem err_size : ((Tryd.prog.info? 153).map (·.size)) = some 1 := by kernel_rfl

theorem eql_same (w : World) (a : Addr) : (binOp .eql 32 (.iface 136 (.pointer (some a))) (.iface 136 (.pointer (some a)))).run Tryd.prog w = .ok (.bool true) w := by
  obtain ⟨i, hi, hc⟩ := Option.map_eq_some_iff.1 ptrErr_info
  obtain ⟨j, hj, _⟩ := Option.map_eq_some_iff.1 err_size
  exact run_eql_iface_ptr_same w a Tryd.underlying32 ptrErr_und hi hc hj
theorem eql_other (w : World) (a b : Addr) (hne : a ≠ b) (ha : ∃ c t, w.heap[a.block]? = some (.cells c t (0, 0))) (hb : ∃ c t, w.heap[b.block]? = some (.cells c t (0, 0))) :
    (binOp .eql 32 (.iface 136 (.pointer (some a))) (.iface 136 (.pointer (some b)))).run Tryd.prog w = .ok (.bool false) w := by
  obtain ⟨i, hi, hc⟩ := Option.map_eq_some_iff.1 ptrErr_info
  obtain ⟨j, hj, hs⟩ := Option.map_eq_some_iff.1 err_size
  obtain ⟨ca, ta, ha⟩ := ha
  obtain ⟨cb, tb, hb⟩ := hb
  exact run_eql_iface_ptr_other w Tryd.underlying32 ptrErr_und hi hc hj (by rw [hs]; decide) hne ha hb

def IsErr (k : Int) : Prop := ∃ g, (k, g) ∈ errTab
theorem IsErr.pos {k : Int} (h : IsErr k) : 101 ≤ k ∧ k ≤ 113 := by
  obtain ⟨g, h⟩ := h
  simp [errTab] at h
  omega
theorem IsErr.mk {k : Int} (h : 101 ≤ k ∧ k ≤ 113) : IsErr k := by
  obtain ⟨h1, h2⟩ := h
  have : k = 101 ∨ k = 102 ∨ k = 103 ∨ k = 104 ∨ k = 105 ∨ k = 106 ∨ k = 107 ∨ k = 108 ∨ k = 109 ∨ k = 110 ∨ k = 111 ∨ k = 112 ∨ k = 113 := by omega
  rcases this with rfl | rfl | rfl | rfl | rfl | rfl | rfl | rfl | rfl | rfl | rfl | rfl | rfl 
  all_goals (apply Exists.intro; unfold errTab; repeat (first | exact List.Mem.head _ | apply List.Mem.tail))

theorem alike_any {ad : Int → Addr} {i k : Int} {w : World} (hE : Errs ad w) (hi : IsErr i) (hk : IsErr k) :
    Calls Tryd.prog 88 #[.iface 136 (.pointer (some (ad i))), .iface 136 (.pointer (some (ad k)))] w fun e w' => e = .returned (.bool (i == k)) ∧ w = w' := by
  by_cases h : i = k
  · subst h
    have he := eql_same w (ad i)
    go_enter Tryd.func88, Tryd.ntmps88
    go_wp2
    go_ret
    exact ⟨by simp, rfl⟩
  · obtain ⟨g, hg⟩ := hi
    obtain ⟨g', hg'⟩ := hk
    have he := eql_other w (ad i) (ad k) (hE.ne _ hg _ hg' h) (hE.heap _ hg) (hE.heap _ hg')
    have hb : (i == k) = false := by simpa using h
    rw [hb]
    clear hb hg hg' h hE
    go_enter Tryd.func88, Tryd.ntmps88
    go_wp2
    go_ret
    exact ⟨rfl, rfl⟩

/-- The errors in the order of their numbers. -/
def errList (ad : Int → Addr) : List Value := (List.range 13).map fun i : Nat => .iface 136 (.pointer (some (ad (101 + (i : Int)))))
abbrev errLit (ad : Int → Addr) : List Value := [.iface 136 (.pointer (some (ad 101))), .iface 136 (.pointer (some (ad 102))), .iface 136 (.pointer (some (ad 103))), .iface 136 (.pointer (some (ad 104))),
  .iface 136 (.pointer (some (ad 105))), .iface 136 (.pointer (some (ad 106))), .iface 136 (.pointer (some (ad 107))), .iface 136 (.pointer (some (ad 108))), .iface 136 (.pointer (some (ad 109))),
  .iface 136 (.pointer (some (ad 110))), .iface 136 (.pointer (some (ad 111))), .iface 136 (.pointer (some (ad 112))), .iface 136 (.pointer (some (ad 113)))]
theorem errList_lit (ad : Int → Addr) : errList ad = errLit ad := by simp [errList, List.range, List.range.loop]
set_option maxRecDepth 100000 in
theorem sentinels_any {ad : Int → Addr} {w : World} (hE : Errs ad w) :
    Calls Tryd.prog 87 #[] w fun e w' => e = .returned (.slice (some ⟨w.heap.size, 0, none⟩) 13 13) ∧ Blk w' w.heap.size (errList ad) 32 ∧ Below w.heap.size w w' := by
  have c1 := hE.cell (101, 1) (by decide)
  have c2 := hE.cell (102, 3) (by decide)
  have c3 := hE.cell (103, 0) (by decide)
  have c4 := hE.cell (104, 4) (by decide)
  have c5 := hE.cell (105, 6) (by decide)
  have c6 := hE.cell (106, 7) (by decide)
  have c7 := hE.cell (107, 2) (by decide)
  have c8 := hE.cell (108, 8) (by decide)
  have c9 := hE.cell (109, 9) (by decide)
  have c10 := hE.cell (110, 10) (by decide)
  have c11 := hE.cell (111, 5) (by decide)
  have c12 := hE.cell (112, 11) (by decide)
  have c13 := hE.cell (113, 12) (by decide)
  rw [errList_lit]
  clear hE
  dsimp only at c1 c2 c3 c4 c5 c6 c7 c8 c9 c10 c11 c12 c13
  go_enter Tryd.func87, Tryd.ntmps87
  go_wp2
  go_ret
  exact ⟨rfl, Blk.new w _ _, (Below.refl _ _).alloc (Nat.le_refl _) _⟩

theorem errList_at (ad : Int → Addr) (j : Nat) (h : j < 13) : (errList ad)[j]? = some (.iface 136 (.pointer (some (ad (101 + (j : Int)))))) := by simp [errList, h]
set_option maxHeartbeats 400000 in
theorem sentinel_any {ad : Int → Addr} {k : Int} {w : World} (hE : Errs ad w) (hk : IsErr k) :
    Calls Tryd.prog 68 #[.iface 136 (.pointer (some (ad k)))] w fun e w' => e = .returned (.int .i64 k) ∧ Below w.heap.size w w' := by
  obtain ⟨hk1, hk2⟩ := hk.pos
  go_enter Tryd.func68, Tryd.ntmps68
  go_wp2_with fail
  refine (sentinels_any hE).mono ?_
  rintro e w1 ⟨rfl, hl1, hb1⟩
  have hE1 := hE.below hb1
  clear hE
  go_wp2_with fail
  go_loop [4] (fun i => ∃ j : Nat, j ≤ (k - 101).toNat ∧ i = .int .i64 j) (fun i => 13 - (intOf i).toNat)
  case atStart => exact ⟨0, by omega, rfl⟩
  case round =>
    obtain ⟨j, hj, rfl⟩ := hrel
    have hj13 : j < 13 := by omega
    have hc : w1.cell? ⟨w.heap.size, j, none⟩ = some (.iface 136 (.pointer (some (ad (101 + (j : Int)))))) := hl1.cell_some (errList_at ad j hj13)
    go_wp2_with fail
    refine (alike_any hE1 hk (IsErr.mk ⟨by omega, by omega⟩)).mono ?_
    rintro e w' ⟨rfl, rfl⟩
    by_cases he : k = 101 + (j : Int)
    · have heb : (k == 101 + (j : Int)) = true := by simpa using he
      have HE := hid he
      clear he
      rw [heb]
      go_wp2_with fail
      go_ret
      exact ⟨ret_int HE.out.symm, hb1⟩
    · have heb : (k == 101 + (j : Int)) = false := by simpa using he
      have hlt : j + 1 ≤ (k - 101).toNat := by omega
      clear he
      rw [heb]
      go_wp2_with fail
      go_round
      case rel => exact ⟨j + 1, hlt, by go_num⟩
      case measure => simp [intOf]; omega
end Go.Proofs.YtogcbiooddodlaaDoor
