/- The library's Delete, at items: one is taken out of a row of one's own. -/
import Derived.Test.YtnhfnklbeifbhaaMailWalks
namespace Go.Proofs.Ytnhfnklbeifbhaa
open Go.RowKit
set_option linter.unusedSimpArgs false

theorem flat_erase (its : List It) (i : Nat) (hi : i < its.length) : ((its.eraseIdx i).flatMap It.cells) = (its.flatMap It.cells).take (i * 2) ++ (its.flatMap It.cells).drop ((i + 1) * 2) := by
  induction its generalizing i with
  | nil => simp at hi
  | cons x l ih =>
    cases i with
    | zero => simp [It.cells]
    | succ i =>
      have h := ih i (by simpa using hi)
      rw [List.eraseIdx_cons_succ, List.flatMap_cons, h, List.flatMap_cons]
      simp only [It.cells]
      rw [show (i + 1) * 2 = i * 2 + 1 + 1 from by omega, show (i + 1 + 1) * 2 = (i * 2 + 1 + 1) + 1 + 1 from by omega]
      simp [List.take_succ_cons, List.drop_succ_cons]

/-- The row but for its end. -/
theorem row_short {w : World} {g n cap i : Nat} {xs : List Value} {E : TypeId} (h : w.ownsRow 0 E 2 (.slice (some ⟨g, 0, none⟩) n cap) n xs) (hi : i ≤ n) : w.ownsRow 0 E 2 (.slice (some ⟨g, 0, none⟩) i cap) i (xs.take (i * 2)) := by
  rcases h.2 with ⟨h', _⟩ | ⟨g', cap', cur, h', hb, hg, hnc, hcm, hcs, htake⟩
  · simp at h'
  · simp only [Value.slice.injEq, Option.some.injEq, Addr.mk.injEq, and_true, true_and] at h'
    obtain ⟨rfl, rfl⟩ := h'
    refine ⟨by rw [List.length_take, h.1]; omega, .inr ⟨g, cap, cur, rfl, hb, hg, by omega, hcm, hcs, ?_⟩⟩
    rw [← htake, List.take_take, Nat.min_eq_left (by omega)]
theorem row_cap {w : World} {g n cap : Nat} {xs : List Value} {E : TypeId} (h : w.ownsRow 0 E 2 (.slice (some ⟨g, 0, none⟩) n cap) n xs) : n ≤ cap ∧ cap ≤ maxLen ∧ ∀ j, j < cap * 2 → ∃ u, w.cell? ⟨g, j, none⟩ = some u := by
  rcases h.2 with ⟨h', _⟩ | ⟨g', cap', cur, h', hb, hg, hnc, hcm, hcs, htake⟩
  · simp at h'
  · simp only [Value.slice.injEq, Option.some.injEq, Addr.mk.injEq, and_true, true_and] at h'
    obtain ⟨rfl, rfl⟩ := h'
    refine ⟨hnc, hcm, fun j hj => ⟨cur[j]'(by omega), ?_⟩⟩
    rw [cell_of_row w g j cur E _ hg]
    exact Array.getElem?_eq_getElem _
/-- A store behind its end. -/
theorem row_past {w : World} {g n cap j : Nat} {xs : List Value} {E : TypeId} (h : w.ownsRow 0 E 2 (.slice (some ⟨g, 0, none⟩) n cap) n xs) (hj : n * 2 ≤ j) (u : Value) : (w.setCell ⟨g, j, none⟩ u).ownsRow 0 E 2 (.slice (some ⟨g, 0, none⟩) n cap) n xs := by
  have := (World.ownsRow.stored h j u).1
  rwa [List.set_eq_of_length_le (by rw [h.1]; exact hj)] at this

/-- 'append(s[:i], s[i+1:]...)' -/
theorem wp_append_del {o : Oper} {a : Act} {K : Act → World → Prop} {Q : Exit → Act → World → Prop} {w : World} {its : List It} {g cap : Nat} (s x : Operand)
    (ho : o.op = .call { callee := .builtin .append, args := #[s, x], argTypes := #[24, 24] }) (hrow : w.ownsRow 0 31 2 (.slice (some ⟨g, 0, none⟩) its.length cap) its.length (its.flatMap It.cells))
    (i : Nat) (hi : i < its.length) (hs : a.eval s = .slice (some ⟨g, 0, none⟩) i cap) (ad : Addr) (m c : Nat) (hx : a.eval x = .slice (some ad) m c) (hm : m = its.length - (i + 1)) (had : i + 1 < its.length → ad = ⟨g, (i + 1) * 2, none⟩)
    (h : ∀ w', w'.ownsRow 0 31 2 (.slice (some ⟨g, 0, none⟩) (its.length - 1) cap) (its.length - 1) ((its.eraseIdx i).flatMap It.cells) → w.grownBy w' (some g) → K (a.put o.dst (.slice (some ⟨g, 0, none⟩) (its.length - 1) cap)) w') : o.wp Try.prog a w K Q := by
  subst hm
  obtain ⟨ti, hti, hz, hsz, hby⟩ := info_parts rowItems.info
  obtain ⟨hnc, hcm, _⟩ := row_cap hrow
  have hlen : ((its.flatMap It.cells).drop ((i + 1) * 2)).length = (its.length - (i + 1)) * 2 := by
    rw [List.length_drop, hrow.1]; omega
  obtain ⟨w', hrun, r1, r2⟩ := run_append_fits (P := Try.prog) w 0 24 o.type 31 ti 2 rowItems.und hti hsz g i cap _ (row_short hrow (Nat.le_of_lt hi)) ad (its.length - (i + 1)) c ((its.flatMap It.cells).drop ((i + 1) * 2)) hlen
    (fun j u hu => by
      rw [List.getElem?_drop] at hu
      have hj : (i + 1) * 2 + j < its.length * 2 := by
        have := (List.getElem?_eq_some_iff.1 hu).1
        rw [hrow.1] at this
        exact this
      rw [had (by omega)]
      have e1 : (⟨g, (i + 1) * 2, none⟩ : Addr).add j = ⟨g, (i + 1) * 2 + j, none⟩ := by unfold Addr.add; split <;> simp_all
      rw [e1, World.ownsRow.cellAt hrow _ hj, hu])
    (fun u hu => List.all_eq_true.1 (cells_one its) u (List.mem_of_mem_drop hu)) (by omega)
  have e : i + (its.length - (i + 1)) = its.length - 1 := by omega
  rw [e] at hrun r1
  rw [← flat_erase its i hi] at r1
  unfold Oper.wp execOp
  simp only [ho, resolve, invoke, builtin, Sem.run_bind, Sem.run_pure, Result.andThen_ok, List.map_toArray, List.map_cons, List.map_nil, hs, hx, hrun]
  exact h w' r1 r2

theorem clear_one (w : World) (g j m c : Nat) (hm : m = 1) (h0 : (w.cell? ⟨g, j, none⟩).isSome = true) (h1 : (w.cell? ⟨g, j + 1, none⟩).isSome = true) (hf : ∀ o, w.frozen? ⟨g, o, none⟩ = false) (ty : TypeId) :
    (Builtin.clear_ #[24] ty #[.slice (some ⟨g, j, none⟩) m c]).run Try.prog w = .ok (.tuple #[]) ((w.setCell ⟨g, j, none⟩ (.int .i64 0)).setCell ⟨g, j + 1, none⟩ (.slice none 0 0)) := by
  subst hm
  have hz := zero_item
  have hst := run_storeCells_cells (P := Try.prog) g j [.int .i64 0, .slice none 0 0] 0 w (by
    intro k hk
    match k, hk with
    | 0, _ => exact h0
    | 1, _ => exact h1) (fun k _ => hf _) (by intro u hu; simp at hu; rcases hu with rfl | rfl <;> rfl)
  have hzc : (Builtin.zeroCells (Value.agg #[.int .i64 0, .slice none 0 0]).cells 1).toList = [.int .i64 0, .slice none 0 0] := by kernel_rfl
  simp only [Nat.add_zero] at hst
  simp [Builtin.clear_, run_underlying Try.underlying24, hz, hzc, hst, World.setCells]

def GivesDel (w : World) (g cap : Nat) (its : List It) (e : Ending) (w' : World) : Prop :=
  e = .returned (.slice (some ⟨g, 0, none⟩) its.length cap) ∧ w'.ownsRow 0 31 2 (.slice (some ⟨g, 0, none⟩) its.length cap) its.length (its.flatMap It.cells) ∧ Eff (· = g) w w'

theorem del_done {w w1 : World} {g cap n : Nat} {its : List It} (hl : its.length = n - 1) (hrow : w1.ownsRow 0 31 2 (.slice (some ⟨g, 0, none⟩) (n - 1) cap) (n - 1) (its.flatMap It.cells)) (hg : w.drew.grownBy w1 (some g)) :
    GivesDel w g cap its (.returned (.slice (some ⟨g, 0, none⟩) (n - 1) cap)) ((w1.setCell ⟨g, (n - 1) * 2, none⟩ (.int .i64 0)).setCell ⟨g, (n - 1) * 2 + 1, none⟩ (.slice none 0 0)) := by
  refine ⟨by rw [hl], ?_, ?_⟩
  · rw [hl]
    exact row_past (row_past hrow (Nat.le_refl _) _) (Nat.le_succ _) _
  · exact (((Eff.refl (· = g) w).drew.grown hg (fun k hk _ => (Option.some.inj hk).symm)).setCell (p := ⟨g, _, none⟩) (fun _ => rfl) _).setCell (p := ⟨g, _, none⟩) (fun _ => rfl) _

set_option maxRecDepth 100000 in
set_option maxHeartbeats 4000000 in
theorem del_any {g cap : Nat} {its : List It} (i : Nat) (w : World) (hrow : w.ownsRow 0 31 2 (.slice (some ⟨g, 0, none⟩) its.length cap) its.length (its.flatMap It.cells)) (hi : i < its.length) :
    Calls Try.prog 24 #[.slice (some ⟨g, 0, none⟩) its.length cap, .int .i64 i, .int .i64 ((i : Int) + 1)] w (GivesDel w g cap (its.eraseIdx i)) := by
  obtain ⟨hnc, hcm, hcell⟩ := row_cap hrow
  have hz := zero_item
  unfold maxLen at hcm
  have i1 : (i : Int) < its.length := by omega
  have c1 : (its.length : Int) ≤ cap := by omega
  have hne : ((i : Int) == (i : Int) + 1) = false := by simp; omega
  have HL : Hid ((its.eraseIdx i).length = its.length - 1) := by rw [Hid, List.length_eraseIdx_of_lt hi]
  have HR := hid (And.intro hrow (And.intro hi hcell))
  have hi1 : i < its.length := hi
  clear hrow hcell hi
  have b1 : (i : Int) ≤ (i : Int) + 1 := by omega
  have b2 : 0 ≤ (i : Int) + 1 := by omega
  have b3 : (i : Int) + 1 ≤ its.length := by omega
  have b4 : (i : Int) ≤ cap := by omega
  by_cases hce : cap = i + 1
  · subst hce
    go_enter Try.func24, Try.ntmps24
    go_wp2_with fail
    refine wp_region_any (by kernel_rfl) ?_
    change wpAny _ _ _ _ _ _ _ (World.drew _)
    refine any_take 0 ?_ rfl (by kernel_rfl) (by kernel_rfl) (by kernel_rfl) (fun _ _ _ h => h) (by rfl) ?_ ?_
    rotate_left
    · (intro w; go_simp; try with_reducible rfl)
    try simp only [Act.put, List.setIfInBounds_toArray, List.set_cons_zero, List.set_cons_succ]
    refine any_take 1 ?_ rfl (by kernel_rfl) (by kernel_rfl) (by kernel_rfl) (fun _ _ _ h => h) (by rfl) ?_ ?_
    rotate_left
    · (intro w; go_simp; try with_reducible rfl)
    try simp only [Act.put, List.setIfInBounds_toArray, List.set_cons_zero, List.set_cons_succ]
    refine any_take 2 ?_ rfl (by kernel_rfl) (by kernel_rfl) (by kernel_rfl) (fun _ _ _ h => h) (by rfl) ?_ ?_
    rotate_left
    · (intro w; go_simp; try with_reducible rfl)
    try simp only [Act.put, List.setIfInBounds_toArray, List.set_cons_zero, List.set_cons_succ]
    refine any_take 3 ?_ rfl (by kernel_rfl) (by kernel_rfl) (by kernel_rfl) (fun _ _ _ h => h) (by rfl) ?_ ?_
    rotate_left
    · (intro w; go_simp; try with_reducible rfl)
    try simp only [Act.put, List.setIfInBounds_toArray, List.set_cons_zero, List.set_cons_succ]
    refine any_take 4 ?_ rfl (by kernel_rfl) (by kernel_rfl) (by kernel_rfl) (fun _ _ _ h => h) (by rfl) ?_ ?_
    rotate_left
    · (intro w; go_simp; try with_reducible rfl)
    try simp only [Act.put, List.setIfInBounds_toArray, List.set_cons_zero, List.set_cons_succ]
    refine any_take 5 ?_ rfl (by kernel_rfl) (by kernel_rfl) (by kernel_rfl) (fun _ _ _ h => h) (by rfl) ?_ ?_
    rotate_left
    · (intro w; go_simp; try with_reducible rfl)
    try simp only [Act.put, List.setIfInBounds_toArray, List.set_cons_zero, List.set_cons_succ]
    refine any_one 6 rfl (by kernel_rfl) (by rfl) ?_
    intro K hK
    refine wp_append_del (.tmp 22) (.tmp 25) rfl HR.out.1.drew i HR.out.2.1 rfl ⟨g, 0, none⟩ _ _ rfl (by first | rfl | omega) (fun h => by omega) ?_
    intro w1 hrow1 hg1
    have HS := hid (And.intro hrow1 hg1)
    clear hrow1 hg1
    refine hK _ _ ?_
    clear hK K
    try simp only [Act.put, List.setIfInBounds_toArray, List.set_cons_zero, List.set_cons_succ]
    refine any_take 7 ?_ rfl (by kernel_rfl) (by kernel_rfl) (by kernel_rfl) (fun _ _ _ h => h) (by rfl) ?_ ?_
    rotate_left
    · (intro w; go_simp; try with_reducible rfl)
    try simp only [Act.put, List.setIfInBounds_toArray, List.set_cons_zero, List.set_cons_succ]
    refine wpAny_done (by kernel_rfl) ?_ _
    have hcc := (row_cap HS.out.1).2.2
    have hfz : ∀ o, w1.frozen? ⟨g, o, none⟩ = false := fun o => World.ownsRow.frozenAt HS.out.1 o
    have hclr := fun c => clear_one w1 g ((its.length - 1) * 2) (its.length - (its.length - 1)) c (by omega) (Option.isSome_iff_exists.2 (hcc _ (by omega))) (Option.isSome_iff_exists.2 (hcc _ (by omega))) hfz 0
    clear hcc hfz
    go_wp2_with fail
    go_ret
    exact del_done HL.out HS.out.1 HS.out.2
  · go_enter Try.func24, Try.ntmps24
    go_wp2_with fail
    refine wp_region_any (by kernel_rfl) ?_
    change wpAny _ _ _ _ _ _ _ (World.drew _)
    refine any_take 0 ?_ rfl (by kernel_rfl) (by kernel_rfl) (by kernel_rfl) (fun _ _ _ h => h) (by rfl) ?_ ?_
    rotate_left
    · (intro w; go_simp; try with_reducible rfl)
    try simp only [Act.put, List.setIfInBounds_toArray, List.set_cons_zero, List.set_cons_succ]
    refine any_take 1 ?_ rfl (by kernel_rfl) (by kernel_rfl) (by kernel_rfl) (fun _ _ _ h => h) (by rfl) ?_ ?_
    rotate_left
    · (intro w; go_simp; try with_reducible rfl)
    try simp only [Act.put, List.setIfInBounds_toArray, List.set_cons_zero, List.set_cons_succ]
    refine any_take 2 ?_ rfl (by kernel_rfl) (by kernel_rfl) (by kernel_rfl) (fun _ _ _ h => h) (by rfl) ?_ ?_
    rotate_left
    · (intro w; go_simp; try with_reducible rfl)
    try simp only [Act.put, List.setIfInBounds_toArray, List.set_cons_zero, List.set_cons_succ]
    refine any_take 3 ?_ rfl (by kernel_rfl) (by kernel_rfl) (by kernel_rfl) (fun _ _ _ h => h) (by rfl) ?_ ?_
    rotate_left
    · (intro w; go_simp; try with_reducible rfl)
    try simp only [Act.put, List.setIfInBounds_toArray, List.set_cons_zero, List.set_cons_succ]
    refine any_take 4 ?_ rfl (by kernel_rfl) (by kernel_rfl) (by kernel_rfl) (fun _ _ _ h => h) (by rfl) ?_ ?_
    rotate_left
    · (intro w; go_simp; try with_reducible rfl)
    try simp only [Act.put, List.setIfInBounds_toArray, List.set_cons_zero, List.set_cons_succ]
    refine any_take 5 ?_ rfl (by kernel_rfl) (by kernel_rfl) (by kernel_rfl) (fun _ _ _ h => h) (by rfl) ?_ ?_
    rotate_left
    · (intro w; go_simp; try with_reducible rfl)
    try simp only [Act.put, List.setIfInBounds_toArray, List.set_cons_zero, List.set_cons_succ]
    refine any_one 6 rfl (by kernel_rfl) (by rfl) ?_
    intro K hK
    refine wp_append_del (.tmp 22) (.tmp 25) rfl HR.out.1.drew i HR.out.2.1 rfl ⟨g, (i + 1) * 2, none⟩ _ _ rfl (by first | rfl | omega) (fun _ => rfl) ?_
    intro w1 hrow1 hg1
    have HS := hid (And.intro hrow1 hg1)
    clear hrow1 hg1
    refine hK _ _ ?_
    clear hK K
    try simp only [Act.put, List.setIfInBounds_toArray, List.set_cons_zero, List.set_cons_succ]
    refine any_take 7 ?_ rfl (by kernel_rfl) (by kernel_rfl) (by kernel_rfl) (fun _ _ _ h => h) (by rfl) ?_ ?_
    rotate_left
    · (intro w; go_simp; try with_reducible rfl)
    try simp only [Act.put, List.setIfInBounds_toArray, List.set_cons_zero, List.set_cons_succ]
    refine wpAny_done (by kernel_rfl) ?_ _
    have hcc := (row_cap HS.out.1).2.2
    have hfz : ∀ o, w1.frozen? ⟨g, o, none⟩ = false := fun o => World.ownsRow.frozenAt HS.out.1 o
    have hclr := fun c => clear_one w1 g ((its.length - 1) * 2) (its.length - (its.length - 1)) c (by omega) (Option.isSome_iff_exists.2 (hcc _ (by omega))) (Option.isSome_iff_exists.2 (hcc _ (by omega))) hfz 0
    clear hcc hfz
    go_wp2_with fail
    go_ret
    exact del_done HL.out HS.out.1 HS.out.2
end Go.Proofs.Ytnhfnklbeifbhaa
