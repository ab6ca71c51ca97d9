/- WireTwins: the walk. -/
import Derived.Test.YtogcbiooddodlaaDoorWireRangesWalk
import Derived.Deep.CutBlock
namespace Go.Proofs.YtogcbiooddodlaaDoor
open Go.RowKit
set_option linter.unusedSimpArgs false

/-- Numbers one behind the other. -/
def cat (xs : List Int) : List Int := xs.flatMap fun n => form (zz n)
theorem cat_succ {xs : List Int} {k : Nat} (h : k < xs.length) : cat (xs.take (k + 1)) = cat (xs.take k) ++ form (zz xs[k]) := by
  rw [cat, List.take_succ_eq_append_getElem h, List.flatMap_append]
  simp [cat]
theorem cat_drop {xs : List Int} {k : Nat} (h : k < xs.length) : (cat xs).drop (cat (xs.take k)).length = form (zz xs[k]) ++ cat (xs.drop (k + 1)) := by
  have e : cat xs = cat (xs.take k) ++ (form (zz xs[k]) ++ cat (xs.drop (k + 1))) := by
    rw [← List.append_assoc, ← cat_succ h, cat, cat, cat, ← List.flatMap_append, List.take_append_drop]
  rw [e, List.drop_left]
theorem cat_b (xs : List Int) : IsB (cat xs) := fun b hb => by
  obtain ⟨n, _, h⟩ := List.mem_flatMap.1 hb
  exact form_b _ b h
theorem cat_len {xs : List Int} (h : ∀ n ∈ xs, inI n) : (cat xs).length ≤ 10 * xs.length := by
  induction xs with
  | nil => simp [cat]
  | cons x l ih =>
    have h1 := form_len10 (zz_lt (h x (by simp)))
    have h2 := ih (fun n hn => h n (by simp [hn]))
    rw [cat, List.flatMap_cons, List.length_append, List.length_cons]
    rw [cat] at h2
    omega
theorem cat_pos {xs : List Int} (h : 0 < xs.length) : 0 < (cat xs).length := by
  cases xs with
  | nil => simp at h
  | cons x l => rw [cat, List.flatMap_cons, List.length_append]; have := form_len_pos (zz x); omega
theorem cat_all (xs : List Int) : (cat (xs.take xs.length)).length = (cat xs).length := by rw [List.take_length]
/-- One read after the other. -/
theorem num_cat {xs : List Int} {k : Nat} (h : k < xs.length) (hin : ∀ n ∈ xs, inI n) : numR (cat xs) (-9223372036854775808) 9223372036854775807 (cat (xs.take k)).length none = (xs[k], (cat (xs.take (k + 1))).length, none) := by
  have hn := hin _ (List.getElem_mem h)
  rw [numR, cat_drop h, rd_form hn, numAt, if_pos (show -9223372036854775808 ≤ xs[k] ∧ xs[k] ≤ 9223372036854775807 from hn), cat_succ h, List.length_append]
theorem cat_left {xs : List Int} {k : Nat} (h : k < xs.length) : (cat (xs.take k)).length < (cat xs).length := by
  have e : cat xs = cat (xs.take k) ++ (form (zz xs[k]) ++ cat (xs.drop (k + 1))) := by
    rw [← List.append_assoc, ← cat_succ h, cat, cat, cat, ← List.flatMap_append, List.take_append_drop]
  have := form_len_pos (zz xs[k])
  rw [e, List.length_append, List.length_append]
  omega

def CatRel (w : World) (xs : List Int) (v i : Value) (wr : World) : Prop :=
  ∃ (k : Nat) (A : Option Addr) (c : Nat), k ≤ xs.length ∧ i = .int .i64 k ∧ v = .slice A (cat (xs.take k)).length c ∧ Sl wr A ((cat (xs.take k)).map (Value.int .u8)) ∧ Below w.heap.size w wr
/-- Two readers of the same bytes, at places of their own. -/
def TwoAt (w : World) (xs : List Int) (lo r lo2 r2 k j : Nat) (wr : World) : Prop :=
  RdrIs wr lo r (cat xs) (cat (xs.take k)).length .nilIface ∧ RdrIs wr lo2 r2 (cat xs) (cat (xs.take j)).length .nilIface ∧ Below w.heap.size w wr
def FirstRel (w : World) (xs : List Int) (lo r lo2 r2 n : Nat) (i : Value) (wr : World) : Prop := ∃ k : Nat, k ≤ n ∧ i = .int .i64 k ∧ TwoAt w xs lo r lo2 r2 k 0 wr
def SecondRel (w : World) (xs : List Int) (lo r lo2 r2 n : Nat) (i : Value) (wr : World) : Prop := ∃ k : Nat, k ≤ xs.length ∧ i = .int .i64 k ∧ TwoAt w xs lo r lo2 r2 n k wr
attribute [irreducible] CatRel FirstRel SecondRel

set_option maxRecDepth 100000 in
set_option maxHeartbeats 8000000 in
theorem wireTwins_walk {ad : Int → Addr} (A : Option Addr) (c : Nat) (xs : List Int) (a1 : Int) (w : World) (hs : Sl w A (xs.map (Value.int .i64))) (hml : xs.length ≤ 9223372036854775807) (hin : ∀ n ∈ xs, inI n) (hE : Errs3 ad w) :
    Calls Tryd.prog 4 #[.slice A xs.length c, .int .i64 a1] w (SaysTrue w) := by
  by_cases h20 : xs.length ≤ 20
  · have h20' : ¬ 20 < (xs.length : Int) := by omega
    have hcl := cat_len hin
    go_enter Tryd.func4, Tryd.ntmps4
    go_wp2_with fail
    refine (first_any _).mono ?_
    rintro e w1 ⟨rfl, hB1⟩
    go_wp2_with fail
    go_loopw [6, 7] (fun v i wr => CatRel w xs v i wr) (fun _ i _ => xs.length - (intOf i).toNat)
    case atStart => unfold CatRel; exact ⟨0, none, 0, by omega, rfl, by simp [cat], .inl (by simp [cat]), hB1⟩
    case round =>
      clear hB1
      unfold CatRel at hrel
      obtain ⟨k, A1, c1, hk, rfl, rfl, hs1, hB⟩ := hrel
      by_cases hlt : k < xs.length
      · obtain ⟨b0, o0, rfl, hbw, hcx⟩ := hs.at (by rw [List.length_map]; omega)
        have hcc : wr.cell? ⟨b0, o0 + k, none⟩ = some (.int .i64 xs[k]) := (hB.cell (p := ⟨b0, o0 + k, none⟩) hbw).trans ((hcx k (by rw [List.length_map]; omega)).trans (by simp))
        have hkl : (cat (xs.take k)).length ≤ 1000000 := by have := cat_left hlt; omega
        have HP := hid (putW_any xs[k] (hin _ (List.getElem_mem hlt)) A1 c1 _ wr hs1 hkl)
        have HC := hid (cat_succ hlt)
        generalize xs[k] = x at *
        clear hcx hs1 hkl
        go_wp2_with fail
        refine HP.out.mono ?_
        rintro e w3 ⟨v3, rfl, hown, hb3⟩
        rw [← HC.out] at hown
        obtain ⟨A3, c3, rfl, _, _, hs3⟩ := Sl.row hown
        clear hown HP
        go_wp2_with fail
        go_roundw
        case rel => unfold CatRel; exact ⟨k + 1, A3, c3, by omega, by go_num, rfl, hs3, hB.trans (hb3.mono hB.size)⟩
        case measure => simp [intOf]; omega
      · obtain rfl : xs.length = k := by omega
        rw [List.take_length] at hs1 ⊢
        have HL := hid (And.intro hs1 (by omega : (cat xs).length ≤ 1000000))
        clear hs1
        go_wp2_with fail
        refine (newReader_any A1 c1 (cat xs) wr HL.out.1 HL.out.2 (cat_b xs)).mono ?_
        rintro e w4 ⟨r, rfl, hR4, hr4, hb4⟩
        have hB4 := hB.trans (hb4.mono hB.size)
        have HS := hid (It2 HL.out.1 hb4)
        have hrl := hR4.blk
        have hrlt : r < w4.heap.size := by obtain ⟨_, _, h, _⟩ := hR4.blk; exact h.lt
        clear hb4 hrl
        go_wp2_with fail
        refine (newReader_any A1 c1 (cat xs) w4 HS.out HL.out.2 (cat_b xs)).mono ?_
        rintro e w5 ⟨r2, rfl, hR5, hr5, hb5⟩
        have hB5 := hB4.trans (hb5.mono hB4.size)
        have hT5 : TwoAt w xs wr.heap.size r w4.heap.size r2 0 0 w5 := ⟨by simpa [cat] using hR4.on hb5, by simpa [cat] using hR5, hB5⟩
        have hWr := Nat.le_trans hB.size hr4
        clear hR4 hR5 hb5 hB4 HS
        go_wp2_with fail
        refine (number_any a1 ((xs.length : Int) + 1) (by omega) (by omega) _).mono ?_
        rintro e w' ⟨rfl, rfl⟩
        obtain ⟨m, hm, hm1⟩ : ∃ m : Nat, a1 % ((xs.length : Int) + 1) = m ∧ m ≤ xs.length := ⟨(a1 % ((xs.length : Int) + 1)).toNat, by have := Int.emod_nonneg a1 (show (xs.length : Int) + 1 ≠ 0 by omega); omega, by have := Int.emod_lt_of_pos a1 (show 0 < (xs.length : Int) + 1 by omega); omega⟩
        rw [hm]
        clear hm
        go_wp2_with fail
        generalize wr.heap.size = lo at *
        generalize w4.heap.size = lo2 at *
        go_loopw [11] (fun i wx => FirstRel w xs lo r lo2 r2 m i wx) (fun i _ => m - (intOf i).toNat)
        case atStart => unfold FirstRel; exact ⟨0, by omega, rfl, hT5⟩
        case round =>
          clear hT5 hB5
          unfold FirstRel TwoAt at hrel
          obtain ⟨k, hk, rfl, hR, hS, hB⟩ := hrel
          by_cases hlt : k < m
          · have hkx : k < xs.length := by omega
            obtain ⟨b0, o0, rfl, hbw, hcx⟩ := hs.at (by rw [List.length_map]; omega)
            have hcc : w.cell? ⟨b0, o0 + k, none⟩ = some (.int .i64 xs[k]) := (hcx k (by rw [List.length_map]; omega)).trans (by simp)
            have hbd : Below wr.heap.size wr wr.drew := (Below.refl _ _).drew
            have hR1 := hR.on hbd
            have hS1 := hS.on hbd
            have hB1 := hB.trans (hbd.mono hB.size)
            have hq := num_any (o := none) (-9223372036854775808) 9223372036854775807 _ (hE.below hB1) ⟨_, hR1, rfl⟩
            rw [num_cat hkx hin] at hq
            have HQ := hid hq
            have hkx' : (k : Int) < xs.length := by omega
            have hlt' : (k : Int) < m := by omega
            have hxx : (xs[k] != xs[k]) = false := by simp
            have HC := hid hcc
            clear hcx hcc hR hS hB hbd hq hR1
            generalize xs[k] = x at *
            go_wp2_with fail
            refine wp_region_held_drew (S := fun w' => w'.cell? ⟨b0, o0 + k, none⟩ = some (.int .i64 x)) (by kernel_rfl) ?_ (fun hHeld => ?_)
            · (try dsimp only); (first | exact (hB1.cell (p := ⟨b0, o0 + k, none⟩) hbw).trans HC.out | exact (hB6.cell (p := ⟨b0, o0 + k, none⟩) hbw).trans HC.out)
            refine held_take 0 ?_ rfl (by kernel_rfl) (by kernel_rfl) (by kernel_rfl) (fun _ _ _ h => h) (by rfl) ?_ hHeld ?_
            rotate_left
            · (intro w hSw; (try dsimp only at hSw); go_simp; try with_reducible rfl)
            try simp only [Act.put, List.setIfInBounds_toArray, List.set_cons_zero, List.set_cons_succ]
            refine held_take 2 ?_ rfl (by kernel_rfl) (by kernel_rfl) (by kernel_rfl) (fun _ _ _ h => h) (by rfl) ?_ hHeld ?_
            rotate_left
            · (intro w hSw; (try dsimp only at hSw); go_simp; try with_reducible rfl)
            try simp only [Act.put, List.setIfInBounds_toArray, List.set_cons_zero, List.set_cons_succ]
            refine held_take 3 ?_ rfl (by kernel_rfl) (by kernel_rfl) (by kernel_rfl) (fun _ _ _ h => h) (by rfl) ?_ hHeld ?_
            rotate_left
            · (intro w hSw; (try dsimp only at hSw); go_simp; try with_reducible rfl)
            try simp only [Act.put, List.setIfInBounds_toArray, List.set_cons_zero, List.set_cons_succ]
            refine held_take 4 ?_ rfl (by kernel_rfl) (by kernel_rfl) (by kernel_rfl) (fun _ _ _ h => h) (by rfl) ?_ hHeld ?_
            rotate_left
            · (intro w hSw; (try dsimp only at hSw); go_simp; try with_reducible rfl)
            try simp only [Act.put, List.setIfInBounds_toArray, List.set_cons_zero, List.set_cons_succ]
            refine held_take 5 ?_ rfl (by kernel_rfl) (by kernel_rfl) (by kernel_rfl) (fun _ _ _ h => h) (by rfl) ?_ hHeld ?_
            rotate_left
            · (intro w hSw; (try dsimp only at hSw); go_simp; try with_reducible rfl)
            try simp only [Act.put, List.setIfInBounds_toArray, List.set_cons_zero, List.set_cons_succ]
            refine held_one 1 rfl (by kernel_rfl) (by rfl) (fun K hK => ?_)
            go_simp
            refine HQ.out.mono ?_
            rintro e w6 ⟨rfl, ⟨ev, hR6, hev⟩, he6⟩
            have hS6 := hS1.eff he6 (fun i hi _ h => by omega) hr5
            have hB6 : Below w.heap.size w w6 := he6.below hB1 hB1.size (fun i hi h => by omega)
            clear HQ hS1 he6
            refine hK.out _ _ ?_ (fun hHeld2 => ?_)
            · (try dsimp only); (first | exact (hB1.cell (p := ⟨b0, o0 + k, none⟩) hbw).trans HC.out | exact (hB6.cell (p := ⟨b0, o0 + k, none⟩) hbw).trans HC.out)
            clear hK K hHeld
            have hHeld := hHeld2
            clear hHeld2
            try simp only [Act.put, List.setIfInBounds_toArray, List.set_cons_zero, List.set_cons_succ]
            refine held_take 6 ?_ rfl (by kernel_rfl) (by kernel_rfl) (by kernel_rfl) (fun _ _ _ h => h) (by rfl) ?_ hHeld ?_
            rotate_left
            · (intro w hSw; (try dsimp only at hSw); go_simp; try with_reducible rfl)
            try simp only [Act.put, List.setIfInBounds_toArray, List.set_cons_zero, List.set_cons_succ]
            refine wpAnyH_done (by kernel_rfl) ?_ _
            clear hHeld
            have hev : ev = .nilIface := hev
            subst hev
            go_wp2_with fail
            go_roundw
            case rel => unfold FirstRel TwoAt; exact ⟨k + 1, by omega, by go_num, hR6, hS6, hB6⟩
            case measure => simp [intOf]; omega
          · obtain rfl : m = k := by omega
            clear hlt
            go_wp2_with fail
            go_loopw [12] (fun i wx => SecondRel w xs lo r lo2 r2 m i wx) (fun i _ => xs.length - (intOf i).toNat)
            case atStart => unfold SecondRel TwoAt; exact ⟨0, by omega, rfl, hR, hS, hB⟩
            case round =>
              clear hR hS hB
              unfold SecondRel TwoAt at hrel
              obtain ⟨j, hj, rfl, hR, hS, hB⟩ := hrel
              by_cases hlt : j < xs.length
              · obtain ⟨b0, o0, rfl, hbw, hcx⟩ := hs.at (by rw [List.length_map]; omega)
                have hcc : w.cell? ⟨b0, o0 + j, none⟩ = some (.int .i64 xs[j]) := (hcx j (by rw [List.length_map]; omega)).trans (by simp)
                have hbd : Below wr.heap.size wr wr.drew := (Below.refl _ _).drew
                have hR1 := hR.on hbd
                have hS1 := hS.on hbd
                have hB1 := hB.trans (hbd.mono hB.size)
                have hq := num_any (o := none) (-9223372036854775808) 9223372036854775807 _ (hE.below hB1) ⟨_, hS1, rfl⟩
                rw [num_cat hlt hin] at hq
                have HQ := hid hq
                have hlt' : (j : Int) < xs.length := by omega
                have hxx : (xs[j] != xs[j]) = false := by simp
                have HC := hid hcc
                clear hcx hcc hR hS hB hbd hq hS1
                generalize xs[j] = x at *
                go_wp2_with fail
                refine wp_region_held_drew (S := fun w' => w'.cell? ⟨b0, o0 + j, none⟩ = some (.int .i64 x)) (by kernel_rfl) ?_ (fun hHeld => ?_)
                · (try dsimp only); (first | exact (hB1.cell (p := ⟨b0, o0 + j, none⟩) hbw).trans HC.out | exact (hB6.cell (p := ⟨b0, o0 + j, none⟩) hbw).trans HC.out)
                refine held_take 0 ?_ rfl (by kernel_rfl) (by kernel_rfl) (by kernel_rfl) (fun _ _ _ h => h) (by rfl) ?_ hHeld ?_
                rotate_left
                · (intro w hSw; (try dsimp only at hSw); go_simp; try with_reducible rfl)
                try simp only [Act.put, List.setIfInBounds_toArray, List.set_cons_zero, List.set_cons_succ]
                refine held_take 2 ?_ rfl (by kernel_rfl) (by kernel_rfl) (by kernel_rfl) (fun _ _ _ h => h) (by rfl) ?_ hHeld ?_
                rotate_left
                · (intro w hSw; (try dsimp only at hSw); go_simp; try with_reducible rfl)
                try simp only [Act.put, List.setIfInBounds_toArray, List.set_cons_zero, List.set_cons_succ]
                refine held_take 3 ?_ rfl (by kernel_rfl) (by kernel_rfl) (by kernel_rfl) (fun _ _ _ h => h) (by rfl) ?_ hHeld ?_
                rotate_left
                · (intro w hSw; (try dsimp only at hSw); go_simp; try with_reducible rfl)
                try simp only [Act.put, List.setIfInBounds_toArray, List.set_cons_zero, List.set_cons_succ]
                refine held_take 4 ?_ rfl (by kernel_rfl) (by kernel_rfl) (by kernel_rfl) (fun _ _ _ h => h) (by rfl) ?_ hHeld ?_
                rotate_left
                · (intro w hSw; (try dsimp only at hSw); go_simp; try with_reducible rfl)
                try simp only [Act.put, List.setIfInBounds_toArray, List.set_cons_zero, List.set_cons_succ]
                refine held_take 5 ?_ rfl (by kernel_rfl) (by kernel_rfl) (by kernel_rfl) (fun _ _ _ h => h) (by rfl) ?_ hHeld ?_
                rotate_left
                · (intro w hSw; (try dsimp only at hSw); go_simp; try with_reducible rfl)
                try simp only [Act.put, List.setIfInBounds_toArray, List.set_cons_zero, List.set_cons_succ]
                refine held_one 1 rfl (by kernel_rfl) (by rfl) (fun K hK => ?_)
                go_simp
                refine HQ.out.mono ?_
                rintro e w6 ⟨rfl, ⟨ev, hS6, hev⟩, he6⟩
                have hR6 := hR1.eff he6 (fun i _ hi h => by omega) hr4
                have hB6 : Below w.heap.size w w6 := he6.below hB1 hB1.size (fun i hi h => by omega)
                clear HQ hR1 he6
                refine hK.out _ _ ?_ (fun hHeld2 => ?_)
                · (try dsimp only); (first | exact (hB1.cell (p := ⟨b0, o0 + j, none⟩) hbw).trans HC.out | exact (hB6.cell (p := ⟨b0, o0 + j, none⟩) hbw).trans HC.out)
                clear hK K hHeld
                have hHeld := hHeld2
                clear hHeld2
                try simp only [Act.put, List.setIfInBounds_toArray, List.set_cons_zero, List.set_cons_succ]
                refine held_take 6 ?_ rfl (by kernel_rfl) (by kernel_rfl) (by kernel_rfl) (fun _ _ _ h => h) (by rfl) ?_ hHeld ?_
                rotate_left
                · (intro w hSw; (try dsimp only at hSw); go_simp; try with_reducible rfl)
                try simp only [Act.put, List.setIfInBounds_toArray, List.set_cons_zero, List.set_cons_succ]
                refine wpAnyH_done (by kernel_rfl) ?_ _
                clear hHeld
                have hev : ev = .nilIface := hev
                subst hev
                go_wp2_with fail
                go_roundw
                case rel => unfold SecondRel TwoAt; exact ⟨j + 1, by omega, by go_num, hR6, hS6, hB6⟩
                case measure => simp [intOf]; omega
              · obtain rfl : xs.length = j := by omega
                rw [cat_all] at hS
                clear hlt
                obtain ⟨P, hP⟩ : ∃ P, (cat (xs.take m)).length = P := ⟨_, rfl⟩
                have hPL : P ≤ (cat xs).length := by rw [← hP]; exact hR.le
                have hPL2 : m = xs.length → P = (cat xs).length := fun h => by rw [← hP, h, List.take_length]
                have hPL3 : m < xs.length → P < (cat xs).length := fun h => by rw [← hP]; exact cat_left h
                have f1 : ((P : Int) + (((cat xs).length : Int) - P) == ((cat xs).length : Int)) = true := by rw [beq_iff_eq]; omega
                have f2 : (((cat xs).length : Int) - ((cat xs).length : Int) == 0) = true := by rw [beq_iff_eq]; omega
                have a1 := at_any _ hR
                have a2 := left_any _ hR
                rw [hP] at a1 a2
                by_cases hmx : m = xs.length
                · have hPe := hPL2 hmx
                  clear hPL2 hPL3
                  have f3 : ((((cat xs).length : Int) - (P : Int)) == 0) = true := by rw [beq_iff_eq]; omega
                  have f4 : ((m : Int) == (xs.length : Int)) = true := by rw [beq_iff_eq]; omega
                  clear hmx hPe hPL
                  go_wp2_with fail
                  refine a1.mono ?_
                  rintro e w' ⟨rfl, rfl⟩
                  go_wp2_with fail
                  refine a2.mono ?_
                  rintro e w' ⟨rfl, q1, rfl⟩
                  have hb1 := below_drewN (Below.refl wr.heap.size wr) q1
                  have a3 := left_any _ (hS.on hb1)
                  have hR1 := hR.on hb1
                  have hB1 := hB.trans (hb1.mono hB.size)
                  rw [hP] at hR1
                  clear a1 a2 hb1
                  generalize wr.drewN q1 = w7 at *
                  go_wp2_with fail
                  refine a3.mono ?_
                  rintro e w' ⟨rfl, q2, rfl⟩
                  have hb2 := below_drewN (Below.refl w7.heap.size w7) q2
                  have hR2 := hR1.on hb2
                  have hB2 := hB1.trans (hb2.mono hB1.size)
                  clear a3 hb2 hR1 hB1
                  generalize w7.drewN q2 = w8 at *
                  go_wp2_with fail
                  refine (errOf_any _ hR2).mono ?_
                  rintro e w' ⟨rfl, rfl⟩
                  go_wp2_with fail
                  refine (left_any _ hR2).mono ?_
                  rintro e w' ⟨rfl, q3, rfl⟩
                  have hB3 := below_drewN hB2 q3
                  go_wp2_with fail
                  go_ret
                  exact ⟨rfl, hB3⟩
                · have hPe := hPL3 (by omega)
                  clear hPL2 hPL3
                  have f3 : ((((cat xs).length : Int) - (P : Int)) == 0) = false := by rw [beq_eq_false_iff_ne]; omega
                  have f4 : ((m : Int) == (xs.length : Int)) = false := by rw [beq_eq_false_iff_ne]; omega
                  clear hmx hPe hPL
                  go_wp2_with fail
                  refine a1.mono ?_
                  rintro e w' ⟨rfl, rfl⟩
                  go_wp2_with fail
                  refine a2.mono ?_
                  rintro e w' ⟨rfl, q1, rfl⟩
                  have hb1 := below_drewN (Below.refl wr.heap.size wr) q1
                  have a3 := left_any _ (hS.on hb1)
                  have hR1 := hR.on hb1
                  have hB1 := hB.trans (hb1.mono hB.size)
                  rw [hP] at hR1
                  clear a1 a2 hb1
                  generalize wr.drewN q1 = w7 at *
                  go_wp2_with fail
                  refine a3.mono ?_
                  rintro e w' ⟨rfl, q2, rfl⟩
                  have hb2 := below_drewN (Below.refl w7.heap.size w7) q2
                  have hR2 := hR1.on hb2
                  have hB2 := hB1.trans (hb2.mono hB1.size)
                  clear a3 hb2 hR1 hB1
                  generalize w7.drewN q2 = w8 at *
                  go_wp2_with fail
                  refine (errOf_any _ hR2).mono ?_
                  rintro e w' ⟨rfl, rfl⟩
                  go_wp2_with fail
                  refine (left_any _ hR2).mono ?_
                  rintro e w' ⟨rfl, q3, rfl⟩
                  have hB3 := below_drewN hB2 q3
                  go_wp2_with fail
                  go_ret
                  exact ⟨rfl, hB3⟩
  · have h20' : 20 < (xs.length : Int) := by omega
    go_enter Tryd.func4, Tryd.ntmps4
    go_wp2_with fail
    refine (first_any _).mono ?_
    rintro e w1 ⟨rfl, hB1⟩
    go_wp2_with fail
    go_ret
    exact ⟨rfl, hB1⟩
end Go.Proofs.YtogcbiooddodlaaDoor
