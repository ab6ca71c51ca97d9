/- What each function of the table of who is alive does to memory: the fourth part: what is asked of it, and a copy. -/
import Derived.Test.YtlihiiaabfkhaaaLiveWalks3
namespace Go.Proofs.Ytlihiiaabfkhaaa
open Go.RowKit

set_option maxHeartbeats 400000 in
theorem seen_any {b : Nat} {t : Tab} (ht : t.ok) (w : World) (hb : Blk w b t.cells 28) :
    Calls Try.prog 11 #[.pointer (some ⟨b, 0, none⟩)] w fun e w' => e = .returned (.int .i64 t.seen) ∧ w = w' := by
  have c5 : w.cell? ⟨b, 80, none⟩ = some (.int .i64 t.seen) := hb.cell_some (Tab.cell_seen t ht.1)
  clear ht
  go_enter Try.func11, Try.ntmps11
  go_wp2
  go_ret
  exact ⟨rfl, rfl⟩

set_option maxHeartbeats 400000 in
theorem life_any {b : Nat} {t : Tab} (ht : t.ok) (n : Int) (w : World) (hb : Blk w b t.cells 28) :
    Calls Try.prog 14 #[.pointer (some ⟨b, 0, none⟩), .int .i64 n] w fun e w' => e = .returned (.tuple #[.int .i64 (t.lifeOf n), .bool (t.has n)]) ∧ w = w' := by
  by_cases h0 : 0 ≤ n ∧ n < 16
  · obtain ⟨h0, h1⟩ := h0
    have hk : n.toNat < t.l.length := by have := ht.1; omega
    have c0 : w.cell? ⟨b, n.toNat * 5, none⟩ = some (.bool (t.at n.toNat).known) := hb.cell_some (Tab.cell t hk (j := 0) (by omega))
    have c3 : w.cell? ⟨b, n.toNat * 5 + 3, none⟩ = some (.int .i64 (t.at n.toNat).life) := hb.cell_some (Tab.cell t hk (j := 3) (by omega))
    clear ht
    cases hkn : (t.at n.toNat).known with
    | true =>
      rw [hkn] at c0
      have HH : Hid (t.has n = true) := by simp [Hid, Tab.has, h0, h1, hkn]
      clear hkn
      go_enter Try.func14, Try.ntmps14
      go_wp2_with (go_at_call 20; refine (car_any _ _).mono ?_; rintro e w' ⟨rfl, rfl⟩)
      go_ret2
      exact ⟨by simp only [Tab.lifeOf, HH.out, if_true]; rfl, rfl⟩
    | false =>
      rw [hkn] at c0
      have HH : Hid (t.has n = false) := by simp [Hid, Tab.has, hkn]
      clear hkn
      go_enter Try.func14, Try.ntmps14
      go_wp2_with (go_at_call 20; refine (car_any _ _).mono ?_; rintro e w' ⟨rfl, rfl⟩)
      go_ret2
      exact ⟨by simp only [Tab.lifeOf, HH.out]; rfl, rfl⟩
  · have HH : Hid (t.has n = false) := by
      simp only [Hid, Tab.has, Bool.and_eq_false_iff, decide_eq_false_iff_not]
      omega
    have h0 : (decide (0 ≤ n) && decide (n < 16)) = false := by simp; omega
    clear ht
    go_enter Try.func14, Try.ntmps14
    go_wp2_with (go_at_call 20; refine (car_any _ _).mono ?_; rintro e w' ⟨rfl, rfl⟩)
    go_ret2
    exact ⟨by simp only [Tab.lifeOf, HH.out]; rfl, rfl⟩

theorem und_table : (Try.prog.underlying 28).map isAggDesc = some true := by kernel_rfl
theorem size_table : (Try.prog.info? 28).map (·.size) = some 81 := by kernel_rfl
theorem zero_table (w : World) : (zeroValue 28).run Try.prog w = .ok (.agg Tab.zero.cells.toArray) w := by kernel_rfl
theorem Tab.len {t : Tab} (h : t.l.length = 16) : t.cells.length = 81 := by simp [Tab.cells, flat_length One.len, h]
theorem Tab.one (t : Tab) : t.cells.all (fun u => u.oneCell') = true := by
  unfold Tab.cells
  rw [List.all_append, List.all_flatMap]
  simp [One.cells, Value.oneCell']

/-- A new block, the last one, that holds these cells; nothing else has turned. -/
def NewBlk (w : World) (cs : List Value) (E : TypeId) (e : Ending) (w' : World) : Prop :=
  e = .returned (.pointer (some ⟨w.heap.size, 0, none⟩)) ∧ Blk w' w.heap.size cs E ∧ Below w.heap.size w w' ∧ w'.heap.size = w.heap.size + 1

set_option maxHeartbeats 400000 in
theorem clone_any {b : Nat} {t : Tab} (ht : t.ok) (w : World) (hb : Blk w b t.cells 28) :
    Calls Try.prog 15 #[.pointer (some ⟨b, 0, none⟩)] w (NewBlk w t.cells 28) := by
  obtain ⟨d1, hd1, hd1'⟩ := Option.map_eq_some_iff.1 und_table
  have HD1 := hid hd1
  have HD1' := hid hd1'
  clear hd1 hd1'
  have HLD : Hid (∀ j u, t.cells[j]? = some u → w.cell? ((⟨b, 0, none⟩ : Addr).add j) = some u) := by
    intro j u hu
    have e : (⟨b, 0, none⟩ : Addr).add j = ⟨b, j, none⟩ := by unfold Addr.add; split <;> simp_all
    rw [e]
    exact hb.cell_some hu
  have HL := hid (Tab.len ht.1)
  have HSZ : Hid ((Try.prog.info? 28).map (·.size) = some t.cells.length) := by rw [Hid, HL.out]; exact size_table
  have hz := zero_table
  go_enter Try.func15, Try.ntmps15
  go_wp2_with (first | (refine wpList_load_agg rfl 28 _ rfl ⟨b, 0, none⟩ rfl _ HLD.out _ HD1.out HD1'.out HSZ.out ?_) | (refine wpList_store_agg rfl 28 _ _ rfl w.heap.size 0 rfl t.cells rfl _ _ (Blk.new w _ _) (by rw [HL.out]; decide) (Tab.one t) HSZ.out ?_; intro w1 hb1 he1 hs1))
  go_ret
  refine ⟨rfl, ?_, ?_, ?_⟩
  · rw [List.drop_of_length_le (by rw [HL.out]; decide)] at hb1
    simpa using hb1
  · exact he1.below ((Below.refl _ _).alloc (Nat.le_refl _) _) (by simp) (fun i hi => by omega)
  · simpa using hs1
end Go.Proofs.Ytlihiiaabfkhaaa
