/- WireRanges: the walk. -/
import Derived.Test.YtogcbiooddodlaaDoorWireMore
import Derived.Test.YtogcbiooddodlaaDoorRefCopy
import Derived.Test.YtogcbiooddodlaaDoorSlBytes
namespace Go.Proofs.YtogcbiooddodlaaDoor
open Go.RowKit
set_option linter.unusedSimpArgs false

theorem inI_lit {n : Int} (h : (Lit.int .i64 n).wf = true) : inI n := by
  have e1 : IntKind.i64.min = -9223372036854775808 := by decide
  have e2 : IntKind.i64.max = 9223372036854775807 := by decide
  simp [Lit.wf, e1, e2] at h
  unfold inI
  omega
theorem isb_of {xs : List Int} (h : ∀ n ∈ xs, (Lit.int .u8 n).wf = true) : IsB xs := fun n hn => by
  have h := h n hn
  have e1 : IntKind.u8.min = 0 := by decide
  have e2 : IntKind.u8.max = 255 := by decide
  simp [Lit.wf, e1, e2] at h
  omega
theorem isb_append {xs ys : List Int} (h : IsB xs) (h2 : IsB ys) : IsB (xs ++ ys) := fun b hb => (List.mem_append.1 hb).elim (h b) (h2 b)
set_option maxRecDepth 100000 in
set_option maxHeartbeats 8000000 in
theorem wireRanges_walk {ad : Int → Addr} (n low high : Int) (hn : inI n) (A : Option Addr) (c : Nat) (more : List Int) (w : World) (hs : Sl w A (more.map (Value.int .u8))) (hA : A = none → c = 0) (hml : more.length ≤ 9223372036854775807) (hmb : IsB more) (hE : Errs ad w) :
    Calls Tryd.prog 6 #[.int .i64 n, .int .i64 low, .int .i64 high, .slice A more.length c] w (SaysTrue w) := by
  by_cases h50 : more.length ≤ 50
  · have h50' : ¬ 50 < (more.length : Int) := by omega
    go_enter Tryd.func6, Tryd.ntmps6
    go_wp2_with fail
    refine (first_any _).mono ?_
    rintro e w1 ⟨rfl, hB1⟩
    go_wp2_with fail
    refine (putNil_any n hn _).mono ?_
    rintro e w2 ⟨v2, rfl, hX2, hb2⟩
    have hX10 := form_len10 (zz_lt hn)
    have hrd := rd_form hn more
    have hXb := isb_append (form_b (zz n)) hmb
    generalize form (zz n) = X at *
    obtain ⟨AX, cX, rfl, _, _, hXs⟩ := Sl.row hX2
    have hB2 := hB1.trans (hb2.mono hB1.size)
    have HX := hid (And.intro hrd hXb)
    clear hB1 hb2 hX2 hrd hXb
    go_wp2_with fail
    refine (refBytes_any AX cX X _ hXs (by omega)).mono ?_
    rintro e w3 ⟨v3, rfl, hown3, hb3⟩
    have hB3 := hB2.trans (hb3.mono hB2.size)
    have hs3 := It2 hs hB3
    obtain ⟨A3, c3, rfl, _, _, _⟩ := Sl.row hown3
    have HO := hid (And.intro hown3 (And.intro hs3 (And.intro hA (And.intro hb3.size (by omega : X.length + more.length ≤ 2000000)))))
    have hw2 := hB2.size
    clear hXs hB2 hb3 hown3 hs3 hA
    go_wp2_with (
      at_builtin
      refine wpList_append_sl rfl _ _ rfl rfl HO.out.1 rfl HO.out.2.1 HO.out.2.2.1 HO.out.2.2.2.2 HO.out.2.2.2.1 ?_
      intro v4 w4 hown4 hb4
      obtain ⟨A4, c4, rfl, _, _, hs4⟩ := Sl.row hown4)
    have hB4 := hB3.trans (hb4.mono hw2)
    have hnr := newReader_any A4 c4 (X ++ more) w4 hs4 (by rw [List.length_append]; omega) HX.out.2
    rw [List.length_append] at hnr
    clear hown4 hb4 hs4 hB3 HO
    refine hnr.mono ?_
    rintro e w5 ⟨r, rfl, hR5, hr5, hb5⟩
    have hB5 := hB4.trans (hb5.mono hB4.size)
    have hrW := Nat.le_trans hB4.size hr5
    have hnum : numR (X ++ more) low high 0 none = numAt low high 0 (.num n X.length) := by rw [numR, List.drop_zero, HX.out.1]
    have hq := num_any (o := none) low high _ (hE.below hB5).three ⟨_, hR5, rfl⟩
    rw [hnum] at hq
    clear hnr hnum hR5 hr5 hb5 hB4
    by_cases hin : low ≤ n ∧ n ≤ high
    · have hz : numAt low high 0 (.num n X.length) = (n, 0 + X.length, none) := if_pos hin
      rw [hz, Nat.zero_add] at hq
      obtain ⟨hlo, hhi⟩ := hin
      clear hz
      go_wp2_with fail
      refine hq.mono ?_
      rintro e w6 ⟨rfl, ⟨ev, hR6, hev⟩, he6⟩
      have hev : ev = .nilIface := hev
      subst hev
      have hB6 : Below w.heap.size w w6 := he6.below hB5 hB5.size (fun i hi h => by omega)
      have hnn : (n == n) = true := by simp
      clear hq he6 hB5
      go_wp2_with fail
      refine (errOf_any _ hR6).mono ?_
      rintro e w' ⟨rfl, rfl⟩
      go_wp2_with fail
      refine (at_any _ hR6).mono ?_
      rintro e w' ⟨rfl, rfl⟩
      have hxx : ((X.length : Int) == (X.length : Int)) = true := by simp
      have hmm : ((X.length : Int) + (more.length : Int) - (X.length : Int) == (more.length : Int)) = true := by rw [beq_iff_eq]; omega
      have hlf := left_any _ hR6
      go_wp2_with fail
      refine hlf.mono ?_
      rintro e w' ⟨rfl, q, rfl⟩
      have hB7 := below_drewN hB6 q
      go_wp2_with fail
      go_ret
      exact ⟨rfl, hB7⟩
    · have hz : numAt low high 0 (.num n X.length) = (0, 0, some (103, 0)) := if_neg hin
      rw [hz] at hq
      clear hz
      have hcut : n < low ∨ (low ≤ n ∧ high < n) := by omega
      rcases hcut with hlo | ⟨hlo, hhi⟩
      all_goals
        go_wp2_with fail
        refine hq.mono ?_
        rintro e w6 ⟨rfl, hR6, he6⟩
        have hB6 : Below w.heap.size w w6 := he6.below hB5 hB5.size (fun i hi h => by omega)
        have hq2 := num_any (-9223372036854775808) 9223372036854775807 _ (hE.below hB6).three hR6
        clear hq he6 hB5 hR6
        go_wp2_with fail
        refine hq2.mono ?_
        rintro e w7 ⟨rfl, hR7, he7⟩
        have hR7 : RdrL ad w7 w4.heap.size r (X ++ more) 0 (some (103, 0)) := hR7
        have hB7 : Below w.heap.size w w7 := he7.below hB6 hB6.size (fun i hi h => by omega)
        have hq3 : Calls Tryd.prog 30 #[.pointer (some ⟨r, 0, none⟩)] w7 (GivesBoolR ad w7 w4.heap.size r (X ++ more) false (0, some (103, 0))) := bool_any _ (hE.below hB7).three hR7
        clear hq2 he7 hB6 hR7
        go_wp2_with fail
        refine hq3.mono ?_
        rintro e w8 ⟨rfl, hR8, he8⟩
        have hR8 : RdrL ad w8 w4.heap.size r (X ++ more) 0 (some (103, 0)) := hR8
        have hB8 : Below w.heap.size w w8 := he8.below hB7 hB7.size (fun i hi h => by omega)
        have hq4 := textErr_any 9 _ (hE.below hB8).three hR8
        clear hq3 he8 hB7 hR8
        go_wp2_with fail
        refine hq4.mono ?_
        rintro e w9 ⟨rfl, ⟨ev, hR9, B, rfl, hb9, hBr⟩, he9⟩
        have hB9 : Below w.heap.size w w9 := he9.below hB8 hB8.size (fun i hi h => by omega)
        clear hq4 he9 hB8
        go_wp2_with fail
        refine (at_any _ hR9).mono ?_
        rintro e w' ⟨rfl, rfl⟩
        go_wp2_with fail
        refine (errOf_any _ hR9).mono ?_
        rintro e w' ⟨rfl, rfl⟩
        go_wp2_with fail
        refine (placed_any 103 0 (by decide) _).mono ?_
        rintro e w10 ⟨rfl, hb10⟩
        have hB10 := hB9.trans (hb10.mono hB9.size)
        have hBlk := (Eff.of_below (S := fun _ => False) hb10).blk hb9 (fun h => h)
        clear hR9 hb9 hb10 hB9
        go_wp2_with fail
        refine (same_at (hE.below hB10) (IsErr.mk (by decide)) hBlk).mono ?_
        rintro e w11 ⟨rfl, hb11⟩
        have hB11 := hB10.trans (hb11.mono hB10.size)
        go_wp2_with fail
        go_ret
        exact ⟨rfl, hB11⟩
  · have h50' : 50 < (more.length : Int) := by omega
    go_enter Tryd.func6, Tryd.ntmps6
    go_wp2_with fail
    refine (first_any _).mono ?_
    rintro e w1 ⟨rfl, hB1⟩
    go_wp2_with fail
    go_ret
    exact ⟨rfl, hB1⟩
end Go.Proofs.YtogcbiooddodlaaDoor
