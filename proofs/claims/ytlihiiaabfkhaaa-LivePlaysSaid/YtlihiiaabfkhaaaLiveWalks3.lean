/- What each function of the table of who is alive does to memory: the third part: who is alive. -/
import Derived.Test.YtlihiiaabfkhaaaLiveWalks2
namespace Go.Proofs.Ytlihiiaabfkhaaa
open Go.RowKit

theorem row_ints : RowT Try.prog 22 3 (.int .i64 0) 1 8 := ⟨by kernel_rfl, by kernel_rfl, rfl, by decide⟩
theorem und_table_l : Try.prog.underlying 26 = some (.array 16 25) := by kernel_rfl
theorem und_one : (Try.prog.underlying 25).map isAggDesc = some true := by kernel_rfl
theorem size_table_l : (Try.prog.info? 26).map (·.size) = some 80 := by kernel_rfl
theorem size_one : (Try.prog.info? 25).map (·.size) = some 5 := by kernel_rfl

def AliveRel (t : Tab) (w : World) (v i : Value) (wr : World) : Prop :=
  ∃ k : Nat, k ≤ 16 ∧ i = .int .i64 k ∧ wr.ownsRow w.heap.size 3 1 v (t.aliveTo k).length ((t.aliveTo k).map (Value.int .i64)) ∧ Below w.heap.size w wr
/-- The call handed back a row of its own, that reads as these numbers; nothing that was there has turned. -/
def GivesInts (w : World) (xs : List Int) (e : Ending) (w' : World) : Prop := ∃ v, e = .returned v ∧ w'.ownsRow w.heap.size 3 1 v xs.length (xs.map (Value.int .i64)) ∧ Below w.heap.size w w'

set_option maxHeartbeats 400000 in
theorem alive_any {b : Nat} {t : Tab} (ht : t.ok) (w : World) (hb : Blk w b t.cells 28) :
    Calls Try.prog 13 #[.pointer (some ⟨b, 0, none⟩)] w (GivesInts w t.alive) := by
  have HL := hid ht.1
  obtain ⟨d1, hd1, hd1'⟩ := Option.map_eq_some_iff.1 und_one
  have HD1 := hid hd1
  have HD1' := hid hd1'
  clear hd1 hd1'
  have hld : ∀ j u, (t.l.flatMap One.cells)[j]? = some u → w.cell? ((⟨b, 0, none⟩ : Addr).add j) = some u := by
    intro j u hu
    have e : (⟨b, 0, none⟩ : Addr).add j = ⟨b, j, none⟩ := by unfold Addr.add; split <;> simp_all
    rw [e]
    refine hb.cell_some ?_
    unfold Tab.cells
    rw [List.getElem?_append_left (List.getElem?_eq_some_iff.1 hu).1, hu]
  have HLD := hid hld
  clear hld
  have hsz : (Try.prog.info? 26).map (·.size) = some (t.l.flatMap One.cells).length := by rw [flat_length One.len, HL.out]; exact size_table_l
  have HSZ := hid hsz
  clear hsz
  go_enter Try.func13, Try.ntmps13
  go_wp2_with (refine wpList_load_agg rfl 26 _ rfl ⟨b, 0, none⟩ rfl _ HLD.out _ und_table_l rfl HSZ.out ?_)
  go_loopw [3, 10] (fun v i wr => AliveRel t w v i wr) (fun _ i _ => 16 - (intOf i).toNat)
  case atStart => exact ⟨0, by omega, rfl, World.ownsRow_nil _ _ _ _, Below.refl _ _⟩
  case round =>
    obtain ⟨k, hk, rfl, hown, hbl⟩ := hrel
    by_cases hlt : k < 16
    · have hkl : k < t.l.length := by rw [HL.out]; exact hlt
      have HEX := hid (flat_extract One.len t.l k _ (Tab.at_get hkl))
      have HS := hid (Tab.aliveTo_succ t k)
      have hal := Tab.aliveTo_length t k
      cases hh : (t.at k).heard with
      | false =>
        have HA : Hid ((t.at k).alive = false) := by simp [Hid, One.alive, hh]
        have HC : Hid ((t.at k).cells.toArray = #[.bool (t.at k).known, .bool false, .bool (t.at k).out, .int .i64 (t.at k).life, .int .i64 (t.at k).age]) := by simp [Hid, One.cells, hh]
        clear hh
        go_wp2_with (refine wpList_index_agg rfl 26 _ _ rfl _ rfl k rfl 16 25 und_table_l hlt d1 HD1.out HD1'.out 5 size_one _ (HEX.out.trans HC.out) ?_)
        go_roundw
        case rel =>
          refine ⟨k + 1, by omega, by go_num, ?_, hbl.alloc hbl.size _⟩
          rw [HS.out, HA.out]
          simpa using hown.alloc _
        case measure => simp [intOf]; omega
      | true =>
        cases ho : (t.at k).out with
        | true =>
          have HA : Hid ((t.at k).alive = false) := by simp [Hid, One.alive, ho]
          have HC : Hid ((t.at k).cells.toArray = #[.bool (t.at k).known, .bool true, .bool true, .int .i64 (t.at k).life, .int .i64 (t.at k).age]) := by simp [Hid, One.cells, hh, ho]
          clear hh ho
          go_wp2_with (refine wpList_index_agg rfl 26 _ _ rfl _ rfl k rfl 16 25 und_table_l hlt d1 HD1.out HD1'.out 5 size_one _ (HEX.out.trans HC.out) ?_)
          go_roundw
          case rel =>
            refine ⟨k + 1, by omega, by go_num, ?_, hbl.alloc hbl.size _⟩
            rw [HS.out, HA.out]
            simpa using hown.alloc _
          case measure => simp [intOf]; omega
        | false =>
          have HA : Hid ((t.at k).alive = true) := by simp [Hid, One.alive, hh, ho]
          have HC : Hid ((t.at k).cells.toArray = #[.bool (t.at k).known, .bool true, .bool false, .int .i64 (t.at k).life, .int .i64 (t.at k).age]) := by simp [Hid, One.cells, hh, ho]
          clear hh ho
          go_wp2_with (first | (refine wpList_index_agg rfl 26 _ _ rfl _ rfl k rfl 16 25 und_table_l hlt d1 HD1.out HD1'.out 5 size_one _ (HEX.out.trans HC.out) ?_) | (at_builtin; refine wpList_append_new row_ints rfl _ _ rfl w.heap.size _ _ _ rfl (hown.alloc _) 1 [.int .i64 k] _ rfl (by simp) rfl rfl (by unfold maxLen; omega) (by omega) (Nat.le_trans hbl.size (by simp)) rfl ?_; intro v' w' hown' hgrow))
          have hbl' := (hbl.alloc hbl.size _).grown hgrow (Nat.le_trans hbl.size (by simp)) (fun j hj => (hown.lt j hj).1)
          clear hgrow hown
          go_wp2
          go_roundw
          case rel =>
            refine ⟨k + 1, by omega, by go_num, ?_, hbl'⟩
            rw [HS.out, HA.out]
            simpa using hown'
          case measure => simp [intOf]; omega
    · have hk16 : k = 16 := by omega
      subst hk16
      go_wp2
      go_ret
      exact ⟨_, rfl, hown, hbl⟩
end Go.Proofs.Ytlihiiaabfkhaaa
