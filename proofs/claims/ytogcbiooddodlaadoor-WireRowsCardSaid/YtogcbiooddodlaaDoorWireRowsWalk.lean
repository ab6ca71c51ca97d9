/- WireRows: the walk. -/
import Derived.Test.YtogcbiooddodlaaDoorWireRowsPure
namespace Go.Proofs.YtogcbiooddodlaaDoor
open Go.RowKit
set_option linter.unusedSimpArgs false

def endsL (xs : List Int) (s : ByteArray) (k : Nat) : List Int := (List.range k).map fun i => (place xs s (i + 1) : Int)
theorem endsL_succ (xs : List Int) (s : ByteArray) (k : Nat) : endsL xs s (k + 1) = endsL xs s k ++ [(place xs s (k + 1) : Int)] := by simp [endsL, List.range_succ]
theorem endsL_len (xs : List Int) (s : ByteArray) (k : Nat) : (endsL xs s k).length = k := by simp [endsL]
theorem endsL_get (xs : List Int) (s : ByteArray) {k i : Nat} (h : i < k) : ((endsL xs s k).map (Value.int .i64))[i]? = some (.int .i64 (place xs s (i + 1))) := by simp [endsL, h]
/-- The first loop: the bytes so far, the ends so far. -/
def LaidRel (w : World) (xs : List Int) (s : ByteArray) (v e i : Value) (wr : World) : Prop :=
  ∃ (k : Nat) (A : Option Addr) (c : Nat), k ≤ xs.length ∧ i = .int .i64 k ∧ v = .slice A (place xs s k) c ∧ Sl wr A ((cat (xs.take k)).map (Value.int .u8)) ∧
    wr.ownsRow w.heap.size 3 1 e (endsL xs s k).length ((endsL xs s k).map (Value.int .i64)) ∧ Below w.heap.size w wr
def ReadRel (w w6 : World) (xs : List Int) (s : ByteArray) (bs : List Int) (lo r m : Nat) (p i : Value) (wr : World) : Prop :=
  ∃ k : Nat, k ≤ xs.length + 1 ∧ i = .int .i64 k ∧ p = .int .i64 (place xs s k) ∧ place xs s k ≤ m ∧ RdrIs wr lo r bs (place xs s k) .nilIface ∧ Eff (· = r) w6 wr ∧ Below w.heap.size w wr
attribute [irreducible] LaidRel ReadRel
set_option maxRecDepth 100000 in
set_option maxHeartbeats 4000000 in
theorem wireRows_walk {ad : Int → Addr} (A : Option Addr) (c : Nat) (xs : List Int) (s : ByteArray) (cut : Int) (w : World) (hs : Sl w A (xs.map (Value.int .i64))) (hml : xs.length ≤ 9223372036854775807) (hin : ∀ n ∈ xs, inI n) (hE : Errs ad w) :
    Calls Tryd.prog 7 #[.slice A xs.length c, .string s, .int .i64 cut] w (SaysTrue w) := by
  by_cases h20 : xs.length ≤ 20
  · by_cases h60 : s.size ≤ 60
    · have h20' : ¬ 20 < (xs.length : Int) := by omega
      have h60' : ¬ 60 < (s.size : Int) := by omega
      have hcl := cat_len hin
      have hT : (formT s).length ≤ 70 := by rw [formT_len]; have := form_len10 (zz_lt (inI_size (s := s) (by omega))); omega
      have hall : (allB xs s).length ≤ 270 := by rw [allB, List.length_append]; omega
      go_enter Tryd.func7, Tryd.ntmps7
      go_wp2_with fail
      refine (first_any _).mono ?_
      rintro e w1 ⟨rfl, hB1⟩
      go_wp2_with fail
      go_loopw [8, 9, 10] (fun v e i wr => LaidRel w xs s v e i wr) (fun _ _ i _ => xs.length - (intOf i).toNat)
      case atStart => unfold LaidRel; exact ⟨0, none, 0, by omega, rfl, by rw [place_zero], .inl (by simp [cat]), World.ownsRow_nil _ _ _ _, hB1⟩
      case round =>
        clear hB1
        unfold LaidRel at hrel
        obtain ⟨k, A1, c1, hk, rfl, rfl, hs1, hown, hB⟩ := hrel
        by_cases hlt : k < xs.length
        · obtain ⟨b0, o0, rfl, hbw, hcx⟩ := hs.at (by rw [List.length_map]; omega)
          have hcc : wr.cell? ⟨b0, o0 + k, none⟩ = some (.int .i64 xs[k]) := (hB.cell (p := ⟨b0, o0 + k, none⟩) hbw).trans ((hcx k (by rw [List.length_map]; omega)).trans (by simp))
          have hpl := place_le xs s k
          have hpl1 := place_le xs s (k + 1)
          have hpk : place xs s k = (cat (xs.take k)).length := if_pos hk
          have hpk1 : place xs s (k + 1) = (cat (xs.take k) ++ form (zz xs[k])).length := by rw [place, if_pos (by omega), cat_succ hlt]
          have hPw := putW_any xs[k] (hin _ (List.getElem_mem hlt)) A1 c1 _ wr hs1 (by omega)
          rw [← hpk] at hPw
          have HP := hid hPw
          have HC := hid (cat_succ hlt)
          have HE := hid (endsL_succ xs s k)
          have HK := hid (And.intro hpk hpk1)
          have hlb := hown.lt
          generalize xs[k] = x at *
          clear hcx hs1 hpk hpk1 hPw
          go_wp2_with fail
          refine HP.out.mono ?_
          rintro e w3 ⟨v3, rfl, hown3, hb3⟩
          have hlb3 := hown3.lt
          rw [← HK.out.2, ← HC.out] at hown3
          obtain ⟨A3, c3, rfl, _, _, hs3⟩ := Sl.row hown3
          have hB3 := hB.trans (hb3.mono hB.size)
          have hown4 := (Eff.of_below (S := fun _ => False) hb3).row hown (fun _ _ h => h)
          have HO := hid (And.intro hown4 (And.intro hB3.size (by rw [endsL_len]; omega : (endsL xs s k).length ≤ 2000000)))
          clear hown hown3 hown4 HP
          go_wp2_with (at_builtin; refine wpList_append_int rfl _ _ rfl rfl HO.out.1 (place xs s (k + 1) : Int) w3.heap.size rfl rfl rfl HO.out.2.2 HO.out.2.1 ?_; intro v5 w5 hown5 he5; rw [← HE.out] at hown5)
          go_roundw
          case rel =>
            unfold LaidRel
            refine ⟨k + 1, A3, c3, by omega, by go_num, rfl, hs3.eff he5 (fun a ha hg => ?_), hown5, he5.below hB3 hB3.size (fun g hg h => ?_)⟩
            · have h1 := hlb _ hg
              have h2 := hlb3 a.block (by rw [ha]; rfl)
              omega
            · have h1 := hlb _ h
              omega
          case measure => simp [intOf]; omega
        · obtain rfl : xs.length = k := by omega
          rw [List.take_length] at hs1
          have hpk : place xs s xs.length = (cat xs).length := by rw [place, if_pos (Nat.le_refl _), List.take_length]
          have hPt := putText_any A1 c1 (cat xs) s wr hs1 (by omega) (by omega)
          rw [← hpk, show cat xs ++ formT s = allB xs s from rfl] at hPt
          have hlb := hown.lt
          have HE := hid (endsL_succ xs s xs.length)
          have HP := hid hPt
          have HPE := hid (place_end xs s)
          clear hs1 hpk hPt
          go_wp2_with fail
          refine HP.out.mono ?_
          rintro e w3 ⟨v3, rfl, hown3, hb3⟩
          have hlb3 := hown3.lt
          obtain ⟨A3, c3, rfl, hc3, _, hs3⟩ := Sl.row hown3
          have hB3 := hB.trans (hb3.mono hB.size)
          have hown4 := (Eff.of_below (S := fun _ => False) hb3).row hown (fun _ _ h => h)
          have HO := hid (And.intro hown4 (And.intro hB3.size (by rw [endsL_len]; omega : (endsL xs s xs.length).length ≤ 2000000)))
          clear hown hown3 hown4 HP
          go_wp2_with (at_builtin; refine wpList_append_int rfl _ _ rfl rfl HO.out.1 (place xs s (xs.length + 1) : Int) w3.heap.size rfl rfl (by rw [HPE.out]) HO.out.2.2 HO.out.2.1 ?_; intro v5 w5 hown5 he5; rw [← HE.out] at hown5)
          have hs5 := hs3.eff he5 (fun a ha hg => by
            have h1 := hlb _ hg
            have h2 := hlb3 a.block (by rw [ha]; rfl)
            omega)
          have hB5 : Below w.heap.size w w5 := he5.below hB3 hB3.size (fun g hg h => by have h1 := hlb _ h; omega)
          obtain ⟨Ae, ce, rfl, _, _, hse⟩ := Sl.row hown5
          have hel := hown5.lt
          clear hB3 hs3 hlb hlb3 he5 hown5 HO HE hB hb3
          obtain ⟨B, hBB⟩ : ∃ B, allB xs s = B := ⟨_, rfl⟩
          have hBb : IsB B := hBB ▸ allB_b xs s
          have hBpos : 0 < B.length := by rw [← hBB, allB, List.length_append, formT_len]; have := form_len_pos (zz s.size); omega
          rw [hBB] at hs5 hall hc3
          have HX := hid (And.intro hBB HPE.out)
          have hel2 : (endsL xs s (xs.length + 1)).length = xs.length + 1 := endsL_len _ _ _
          have HEL := hid hel2
          rw [hBB]
          clear hBB HPE
          obtain ⟨b3, o3, rfl, hbw3, _⟩ := hs5.at (by rw [List.length_map]; exact hBpos)
          obtain ⟨m, hm, hm1⟩ : ∃ m : Nat, cut % ((B.length : Int) + 1) = m ∧ m ≤ B.length := ⟨(cut % ((B.length : Int) + 1)).toNat, by have := Int.emod_nonneg cut (show (B.length : Int) + 1 ≠ 0 by omega); omega, by have := Int.emod_lt_of_pos cut (show 0 < (B.length : Int) + 1 by omega); omega⟩
          have hnu := number_any cut ((B.length : Int) + 1) (by omega) (by omega) w5
          rw [hm] at hnu
          clear hm hel2
          refine hnu.mono ?_
          rintro e w' ⟨rfl, rfl⟩
          have hbl : (B.take m).length = m := by rw [List.length_take]; omega
          have hst : Sl w5 (some ⟨b3, o3, none⟩) ((B.take m).map (Value.int .u8)) := by
            rcases hs5 with h | ⟨bb, oo, h, hl, hx⟩
            · exfalso
              have : B.length = 0 := by simpa using congrArg List.length h
              omega
            · refine .inr ⟨bb, oo, h, hl, fun k hk => ?_⟩
              rw [List.length_map, hbl] at hk
              rw [hx k (by rw [List.length_map]; omega), List.map_take, List.getElem?_take_of_lt hk]
          have hnr := newReader_any (some ⟨b3, o3, none⟩) c3 (B.take m) w5 hst (by omega) (fun x hx => hBb x (List.mem_of_mem_take hx))
          rw [hbl] at hnr
          have hmc : 0 ≤ (m : Int) ∧ (m : Int) ≤ c3 := by omega
          have hc30 : ¬ c3 = 0 := by omega
          have HL := hid hbl
          clear hnu hst hbl
          go_wp2_with fail
          refine hnr.mono ?_
          rintro e w6 ⟨r, rfl, hR6, hr6, hb6⟩
          have hB6 := hB5.trans (hb6.mono hB5.size)
          obtain ⟨be, oe, rfl, hbe, _⟩ := hse.at (by rw [List.length_map]; have := HEL.out; omega)
          have hse6 := It2 hse hb6
          have hrw := Nat.le_trans hB5.size hr6
          have hP0 := hid (place_zero xs s)
          clear hse hb6 hs5 hB5 hel
          go_wp2_with fail
          go_loopw [13, 14] (fun p i wr => ReadRel w w6 xs s (B.take m) w5.heap.size r m p i wr) (fun _ i _ => xs.length + 1 - (intOf i).toNat)
          case atStart => unfold ReadRel; exact ⟨0, by omega, rfl, by rw [hP0.out]; rfl, by rw [hP0.out]; omega, by rw [hP0.out]; exact hR6, Eff.refl _ _, hB6⟩
          case round =>
            clear hR6 hB6 hP0
            unfold ReadRel at hrel
            obtain ⟨k, hk, rfl, rfl, hkm, hR, he, hB⟩ := hrel
            by_cases hlast : k ≤ xs.length
            · have hsr := hse6.eff he (fun a ha h => by cases ha; simp only at h; omega)
              obtain ⟨_, _, heq, _, hcx⟩ := hsr.at (by rw [List.length_map]; have := HEL.out; omega)
              cases heq
              have hec : wr.cell? ⟨be, oe + k, none⟩ = some (.int .i64 (place xs s (k + 1))) := by
                rw [hcx k (by rw [List.length_map]; have := HEL.out; omega)]
                exact endsL_get xs s (by omega)
              have hlen : (k : Int) < ((endsL xs s (xs.length + 1)).length : Nat) := by have := HEL.out; omega
              have hlen0 : k < (endsL xs s (xs.length + 1)).length := by have := HEL.out; omega
              have hle' : (k : Int) ≤ xs.length := by omega
              have hpe := place_le xs s (k + 1)
              rw [HX.out.1] at hpe
              have HQ := hid hkm
              clear hcx hsr hkm
              by_cases hlt : k < xs.length
              · have hlt' : (k : Int) < xs.length := by omega
                by_cases hf : place xs s (k + 1) ≤ m
                · have hq := num_any (o := none) (-9223372036854775808) 9223372036854775807 wr (hE.below hB).three ⟨_, hR, rfl⟩
                  rw [← HX.out.1, row_fits hlt hin hf, HX.out.1] at hq
                  have hf' : ((place xs s (k + 1) : Nat) : Int) ≤ m := by omega
                  obtain ⟨b0, o0, rfl, hbw, hcx⟩ := hs.at (by rw [List.length_map]; omega)
                  have hcc : w.cell? ⟨b0, o0 + k, none⟩ = some (.int .i64 xs[k]) := (hcx k (by rw [List.length_map]; omega)).trans (by simp)
                  have hxx : (xs[k] != xs[k]) = false := by simp
                  generalize xs[k] = x at *
                  have HW := hid (And.intro hf hcc)
                  generalize hp1 : place xs s k = p at *
                  generalize hp2 : place xs s (k + 1) = p2 at *
                  clear hf hcx hcc
                  go_wp2_with fail
                  refine hq.mono ?_
                  rintro e w7 ⟨rfl, ⟨ev, hR7, hev⟩, he7⟩
                  have hev : ev = .nilIface := hev
                  subst hev
                  have hB7 : Below w.heap.size w w7 := he7.below hB hB.size (fun i hi h => by omega)
                  have hcc7 : w7.cell? ⟨b0, o0 + k, none⟩ = some (.int .i64 x) := (hB7.cell (p := ⟨b0, o0 + k, none⟩) hbw).trans HW.out.2
                  have hec7 : w7.cell? ⟨be, oe + k, none⟩ = some (.int .i64 p2) := (he7.cell (by have := he.size; omega) (by omega)).trans hec
                  have he67 := he.trans he7
                  clear hq hR hB he he7 hec
                  go_wp2_with fail
                  go_roundw
                  case rel => unfold ReadRel; exact ⟨k + 1, by omega, by go_num, by rw [hp2], by rw [hp2]; exact HW.out.1, by rw [hp2]; exact hR7, he67, hB7⟩
                  case measure => simp [intOf]; omega
                · have hq := num_any (o := none) (-9223372036854775808) 9223372036854775807 wr (hE.below hB).three ⟨_, hR, rfl⟩
                  rw [← HX.out.1, row_cut hlt hin HQ.out (by omega), HX.out.1] at hq
                  have hf' : ¬ ((place xs s (k + 1) : Nat) : Int) ≤ m := by omega
                  generalize hp1 : place xs s k = p at *
                  generalize hp2 : place xs s (k + 1) = p2 at *
                  clear hf
                  go_wp2_with fail
                  refine hq.mono ?_
                  rintro e w7 ⟨rfl, ⟨ev, hR7, X, rfl, hb7, hBr⟩, he7⟩
                  have hB7 : Below w.heap.size w w7 := he7.below hB hB.size (fun i hi h => by omega)
                  clear hq he7 hR hB he
                  go_wp2_with fail
                  refine (at_any _ hR7).mono ?_
                  rintro e w' ⟨rfl, rfl⟩
                  have hpp : ((p : Int) == (p : Int)) = true := by simp
                  go_wp2_with fail
                  refine (errOf_any _ hR7).mono ?_
                  rintro e w' ⟨rfl, rfl⟩
                  go_wp2_with fail
                  refine (placed_any 101 p (by decide) _).mono ?_
                  rintro e w8 ⟨rfl, hb8⟩
                  have hB8 := hB7.trans (hb8.mono hB7.size)
                  have hBlk := (Eff.of_below (S := fun _ => False) hb8).blk hb7 (fun h => h)
                  clear hR7 hb7 hb8 hB7
                  go_wp2_with fail
                  refine (same_at (hE.below hB8) (IsErr.mk (by decide)) hBlk).mono ?_
                  rintro e w9 ⟨rfl, hb9⟩
                  have hB9 := hB8.trans (hb9.mono hB8.size)
                  go_wp2_with fail
                  go_ret
                  exact ⟨rfl, hB9⟩
              · obtain rfl : xs.length = k := by omega
                have hlt' : ¬ (xs.length : Int) < xs.length := by omega
                have hpend : place xs s (xs.length + 1) = B.length := HX.out.2.trans (congrArg List.length HX.out.1)
                by_cases hf : place xs s (xs.length + 1) ≤ m
                · have hq := text_any (o := none) 60 wr (hE.below hB).three ⟨_, hR, rfl⟩
                  rw [← HX.out.1, text_fits h60 (by rw [HX.out.1]; omega), HX.out.1] at hq
                  have hf' : ((place xs s (xs.length + 1) : Nat) : Int) ≤ m := by omega
                  have HW := hid (And.intro hf hpend)
                  generalize hp1 : place xs s xs.length = p at *
                  generalize hp2 : place xs s (xs.length + 1) = p2 at *
                  clear hf hpend
                  go_wp2_with fail
                  refine hq.mono ?_
                  rintro e w7 ⟨rfl, ⟨ev, hR7, hev⟩, he7⟩
                  have hev : ev = .nilIface := hev
                  subst hev
                  have hB7 : Below w.heap.size w w7 := he7.below hB hB.size (fun i hi h => by omega)
                  have hec7 : w7.cell? ⟨be, oe + xs.length, none⟩ = some (.int .i64 p2) := (he7.cell (by have := he.size; omega) (by omega)).trans hec
                  have he67 := he.trans he7
                  clear hq hR hB he he7 hec
                  go_wp2_with fail
                  go_roundw
                  case rel => unfold ReadRel; exact ⟨xs.length + 1, by omega, by go_num, by rw [hp2], by rw [hp2]; exact HW.out.1, by rw [hp2]; exact hR7, he67, hB7⟩
                  case measure => simp [intOf]
                · have hq := text_any (o := none) 60 wr (hE.below hB).three ⟨_, hR, rfl⟩
                  rw [← HX.out.1, text_cut h60 HQ.out (by rw [HX.out.1]; omega), HX.out.1] at hq
                  have hf' : ¬ ((place xs s (xs.length + 1) : Nat) : Int) ≤ m := by omega
                  generalize hp1 : place xs s xs.length = p at *
                  generalize hp2 : place xs s (xs.length + 1) = p2 at *
                  clear hf hpend
                  go_wp2_with fail
                  refine hq.mono ?_
                  rintro e w7 ⟨rfl, ⟨ev, hR7, X, rfl, hb7, hBr⟩, he7⟩
                  have hB7 : Below w.heap.size w w7 := he7.below hB hB.size (fun i hi h => by omega)
                  clear hq he7 hR hB he
                  go_wp2_with fail
                  refine (at_any _ hR7).mono ?_
                  rintro e w' ⟨rfl, rfl⟩
                  have hpp : ((p : Int) == (p : Int)) = true := by simp
                  go_wp2_with fail
                  refine (errOf_any _ hR7).mono ?_
                  rintro e w' ⟨rfl, rfl⟩
                  go_wp2_with fail
                  refine (placed_any 101 p (by decide) _).mono ?_
                  rintro e w8 ⟨rfl, hb8⟩
                  have hB8 := hB7.trans (hb8.mono hB7.size)
                  have hBlk := (Eff.of_below (S := fun _ => False) hb8).blk hb7 (fun h => h)
                  clear hR7 hb7 hb8 hB7
                  go_wp2_with fail
                  refine (same_at (hE.below hB8) (IsErr.mk (by decide)) hBlk).mono ?_
                  rintro e w9 ⟨rfl, hb9⟩
                  have hB9 := hB8.trans (hb9.mono hB8.size)
                  go_wp2_with fail
                  go_ret
                  exact ⟨rfl, hB9⟩
            · obtain rfl : k = xs.length + 1 := by omega
              have hle' : ¬ ((xs.length + 1 : Nat) : Int) ≤ xs.length := by omega
              have hpend : place xs s (xs.length + 1) = B.length := HX.out.2.trans (congrArg List.length HX.out.1)
              rw [hpend] at hR hkm
              have hmB : m = B.length := by omega
              have HLl := HL.out
              have hlf := left_any _ hR
              rw [HL.out, hmB] at hlf
              rw [hpend]
              clear hpend HLl
              go_wp2_with fail
              refine (errOf_any _ hR).mono ?_
              rintro e w' ⟨rfl, rfl⟩
              go_wp2_with fail
              refine hlf.mono ?_
              rintro e w' ⟨rfl, q, rfl⟩
              have hB8 := below_drewN hB q
              go_wp2_with fail
              go_ret
              exact ⟨rfl, hB8⟩
    · have h20' : ¬ 20 < (xs.length : Int) := by omega
      have h60' : 60 < (s.size : Int) := by omega
      go_enter Tryd.func7, Tryd.ntmps7
      go_wp2_with fail
      refine (first_any _).mono ?_
      rintro e w1 ⟨rfl, hB1⟩
      go_wp2_with fail
      go_ret
      exact ⟨rfl, hB1⟩
  · have h20' : 20 < (xs.length : Int) := by omega
    go_enter Tryd.func7, Tryd.ntmps7
    go_wp2_with fail
    refine (first_any _).mono ?_
    rintro e w1 ⟨rfl, hB1⟩
    go_wp2_with fail
    go_ret
    exact ⟨rfl, hB1⟩
end Go.Proofs.YtogcbiooddodlaaDoor
