/- WireForms: the walk. -/
import Derived.Test.YtogcbiooddodlaaDoorWireFirst
import Derived.Test.YtogcbiooddodlaaDoorRefCopy
import Derived.Deep.CutBlock
namespace Go.Proofs.YtogcbiooddodlaaDoor
open Go.RowKit
set_option linter.unusedSimpArgs false

theorem inI_of {n : Int} (h : (Lit.int .i64 n).wf = true) : inI n := by
  have e1 : IntKind.i64.min = -9223372036854775808 := by decide
  have e2 : IntKind.i64.max = 9223372036854775807 := by decide
  simp [Lit.wf, e1, e2] at h
  unfold inI
  omega
/-- No form begins another. -/
theorem form_prefix (z : Nat) : ∀ (u : Nat) (l : List Int), form u = form z ++ l → u = z := by
  induction z using Nat.strongRecOn with
  | ind z ih =>
    intro u l h
    by_cases hz : z < 128
    · rw [form_small hz] at h
      by_cases hu : u < 128
      · rw [form_small hu] at h
        have := (List.cons.inj h).1
        omega
      · rw [form_big hu] at h
        have := (List.cons.inj h).1
        omega
    · rw [form_big hz] at h
      by_cases hu : u < 128
      · rw [form_small hu] at h
        have := (List.cons.inj h).1
        omega
      · rw [form_big hu] at h
        have h1 := (List.cons.inj h).1
        have h2 := ih (z / 128) (by omega) (u / 128) l (List.cons.inj h).2
        omega
theorem form_unlike {z u : Nat} (h : z ≠ u) : form z ≠ (form u).take (form z).length := fun e => by
  have h1 := List.take_append_drop (form z).length (form u)
  rw [← e] at h1
  exact h (form_prefix z u _ h1.symm).symm
theorem zz_inj {a b : Int} (h : a ≠ b) : zz a ≠ zz b := fun e => h (by rw [← unzz_zz a, ← unzz_zz b, e])

/-- A form with its last byte made one that goes on. -/
def bad (z : Nat) : List Int := if z < 128 then [((z + 128 : Nat) : Int)] else ((z % 128 + 128 : Nat) : Int) :: bad (z / 128)
decreasing_by omega
theorem bad_small {z : Nat} (h : z < 128) : bad z = [((z + 128 : Nat) : Int)] := by rw [bad, if_pos h]
theorem bad_big {z : Nat} (h : ¬ z < 128) : bad z = ((z % 128 + 128 : Nat) : Int) :: bad (z / 128) := by rw [bad, if_neg h]
theorem rd_bad (z : Nat) : ∀ i y, rd (bad z ++ [0]) i y = .shape := by
  induction z using Nat.strongRecOn with
  | ind z ih =>
    intro i y
    by_cases hz : z < 128
    · rw [bad_small hz, List.singleton_append, rd]
      by_cases h9 : i = 9
      · rw [if_pos ⟨h9, by omega⟩]
      · rw [if_neg (fun h => h9 h.1), if_pos (by omega), rd, if_neg (fun h => by omega), if_neg (by omega), if_pos ⟨rfl, by omega⟩]
    · rw [bad_big hz, List.cons_append, rd]
      by_cases h9 : i = 9
      · rw [if_pos ⟨h9, by omega⟩]
      · rw [if_neg (fun h => h9 h.1), if_pos (by omega)]
        exact ih _ (by omega) _ _
theorem form_last (z : Nat) : ∃ x : Nat, x < 128 ∧ (form z)[(form z).length - 1]? = some (x : Int) ∧ (form z).set ((form z).length - 1) ((x + 128 : Nat) : Int) = bad z := by
  induction z using Nat.strongRecOn with
  | ind z ih =>
    by_cases hz : z < 128
    · rw [form_small hz, bad_small hz]
      exact ⟨z, hz, rfl, rfl⟩
    · obtain ⟨x, h1, h2, h3⟩ := ih (z / 128) (by omega)
      have hp := form_len_pos (z / 128)
      rw [form_big hz, bad_big hz]
      refine ⟨x, h1, ?_, ?_⟩
      · rw [List.length_cons, show (form (z / 128)).length + 1 - 1 = (form (z / 128)).length - 1 + 1 from by omega, List.getElem?_cons_succ, h2]
      · rw [List.length_cons, show (form (z / 128)).length + 1 - 1 = (form (z / 128)).length - 1 + 1 from by omega, List.set_cons_succ, h3]
theorem bad_b (z : Nat) : IsB (bad z ++ [0]) := by
  induction z using Nat.strongRecOn with
  | ind z ih =>
    intro b hb
    by_cases h : z < 128
    · rw [bad_small h] at hb
      simp at hb
      omega
    · rw [bad_big h, List.cons_append] at hb
      rcases List.mem_cons.1 hb with rfl | hb
      · omega
      · exact ih _ (by omega) b hb
theorem sl_take {w : World} {A : Option Addr} {xs : List Int} (n : Nat) (h : Sl w A (xs.map (Value.int .u8))) : Sl w A ((xs.take n).map (Value.int .u8)) := by
  rcases h with h | ⟨b, o, hA, hb, hc⟩
  · have h : xs = [] := by simpa using h
    exact .inl (by rw [h]; simp)
  · refine .inr ⟨b, o, hA, hb, fun k hk => ?_⟩
    simp only [List.length_map, List.length_take] at hk
    rw [hc k (by rw [List.length_map]; omega), List.map_take, List.getElem?_take, if_pos (by omega)]

set_option maxRecDepth 100000 in
set_option maxHeartbeats 8000000 in
theorem wireForms_walk {ad : Int → Addr} (a0 a1 : Int) (h0 : inI a0) (h1 : inI a1) (w : World) (hE : Errs ad w) : Calls Tryd.prog 3 #[.int .i64 a0, .int .i64 a1] w (SaysTrue w) := by
  go_enter Tryd.func3, Tryd.ntmps3
  go_wp2_with fail
  refine (first_any _).mono ?_
  rintro e w1 ⟨rfl, hB1⟩
  go_wp2_with fail
  refine (putNil_any a0 h0 _).mono ?_
  rintro e w2 ⟨v2, rfl, hX2, hb2⟩
  obtain ⟨X, hX⟩ : ∃ X, form (zz a0) = X := ⟨_, rfl⟩
  rw [hX] at hX2
  have hXp := form_len_pos (zz a0)
  have hX10 := form_len10 (zz_lt h0)
  rw [hX] at hXp hX10
  obtain ⟨AX, cX, rfl, _, _, hXs⟩ := Sl.row hX2
  have hB2 := hB1.trans (hb2.mono hB1.size)
  clear hB1 hb2 hX2
  go_wp2_with fail
  refine (putNil_any a1 h1 _).mono ?_
  rintro e w3 ⟨v3, rfl, hY3, hb3⟩
  obtain ⟨Y, hY⟩ : ∃ Y, form (zz a1) = Y := ⟨_, rfl⟩
  rw [hY] at hY3
  have hYp := form_len_pos (zz a1)
  have hY10 := form_len10 (zz_lt h1)
  rw [hY] at hYp hY10
  obtain ⟨AY, cY, rfl, hYc, hYm, hYs⟩ := Sl.row hY3
  have hB3 := hB2.trans (hb3.mono hB2.size)
  have hXs3 := It2 hXs hb3
  clear hB2 hb3 hY3 hXs
  have HX := hid (And.intro hX hY)
  clear hX hY
  have hXn : ((X.length : Int) == 0) = false := by rw [beq_eq_false_iff_ne]; omega
  have hYn : ((Y.length : Int) == 0) = false := by rw [beq_eq_false_iff_ne]; omega
  have hXt : ¬ 10 < (X.length : Int) := by omega
  unfold maxLen at hYm
  go_upto_region 8 with (fail)
  clear hXn hYn hXt
  go_cut [47] (fun v wx => v = .bool false ∧ ∃ q, wx = w3.drewN q)
  case first =>
    by_cases hab : a0 = a1
    · have hne : (a0 != a1) = false := by simp [hab]
      go_wp2_with fail
      go_meet
      exact ⟨rfl, 0, rfl⟩
    · have hne : (a0 != a1) = true := by simp [hab]
      by_cases hxy : X.length ≤ Y.length
      · have hxy' : (X.length : Int) ≤ Y.length := by omega
        have hxc : (X.length : Int) ≤ cY := by omega
        have hS := sameBytes_any AX AY cX cY X (Y.take X.length) w3 hXs3 (sl_take _ hYs) (by unfold maxLen; omega) (by rw [List.length_take]; unfold maxLen; omega)
        rw [show (Y.take X.length).length = X.length from by rw [List.length_take]; omega, decide_eq_false (by rw [← HX.out.1, ← HX.out.2]; exact form_unlike (zz_inj hab))] at hS
        have HS := hid hS
        clear hS
        go_wp2_with fail
        refine HS.out.mono ?_
        rintro e w' ⟨rfl, q, rfl⟩
        go_wp2_with fail
        go_meet
        exact ⟨rfl, q, rfl⟩
      · have hxy' : (Y.length : Int) < X.length := by omega
        go_wp2_with fail
        go_meet
        exact ⟨rfl, 0, rfl⟩
  case rest =>
    obtain ⟨rfl, q0, rfl⟩ := hcut
    have hXs4 := It2 hXs3 (below_drewN (Below.refl w3.heap.size w3) q0)
    have hB4 := below_drewN hB3 q0
    clear hXs3 hB3 hYs hYc hYm hYp hY10
    generalize w3.drewN q0 = w4 at *
    go_wp2_with fail
    refine (refBytes_any AX cX X _ hXs4 (by omega)).mono ?_
    rintro e w5 ⟨v5, rfl, hown5, hb5⟩
    have hB5 := hB4.trans (hb5.mono hB4.size)
    have hE5 := hE.below hB5
    obtain ⟨x, hx1, hx2, hx3⟩ := form_last (zz a0)
    rw [HX.out.1] at hx2 hx3
    obtain ⟨Z, hZ, hZb, hZr⟩ : ∃ Z, bad (zz a0) = Z ∧ IsB (Z ++ [0]) ∧ ∀ i y, rd (Z ++ [0]) i y = .shape := ⟨_, rfl, bad_b _, rd_bad _⟩
    rw [hZ] at hx3
    have hZl : Z.length = X.length := by rw [← hx3, List.length_set]
    obtain ⟨g, c5, rfl, hgB, hgl⟩ := hown5.form hXp
    have hc5 := hown5.2
    have c0 : w5.cell? ⟨g, X.length - 1, none⟩ = some (.int .u8 x) := by
      rw [World.ownsRow.cellAt hown5 (X.length - 1) (by omega), List.getElem?_map, hx2]; rfl
    have cf : ∀ o, w5.frozen? ⟨g, o, none⟩ = false := fun o => World.ownsRow.frozenAt hown5 o
    have hcast : ((x + 128 : Nat) : Int) = (x : Int) + 128 := by omega
    have hor : bits .or .u8 (x : Int) 128 = (x : Int) + 128 := by
      rw [← hcast, show (128 : Int) = ((128 : Nat) : Int) from rfl, u8_or_nat _ _ (by omega) (by omega), or_128 _ (by omega), Nat.mod_eq_of_lt hx1]
    rw [hcast] at hx3
    clear hcast
    have hst := (World.ownsRow.stored hown5 (X.length - 1) (.int .u8 ((x : Int) + 128))).1
    rw [← List.map_set, hx3] at hst
    have hB6 := hB5.setCell (p := ⟨g, X.length - 1, none⟩) (Nat.le_trans hB4.size hgB) (.int .u8 ((x : Int) + 128))
    have HS := hid (And.intro hst hB6)
    have hX1 : (X.length : Int) - 1 < X.length := by omega
    have hX0 : 0 ≤ (X.length : Int) - 1 := by omega
    have HZ := hid (And.intro hZl (And.intro hZb (And.intro hZr hB4.size)))
    clear hXs4 hb5 hown5 hst hx2 hx3 hZ hZl hZb hZr hB5 hB6 hE5 hc5 hB4
    go_upto_region 12 with (fail)
    obtain ⟨w6, hw6⟩ : ∃ w6, w6 = w5.setCell ⟨g, X.length - 1, none⟩ (.int .u8 ((x : Int) + 128)) := ⟨_, rfl⟩
    rw [← hw6] at HS ⊢
    clear hw6 c0 cf hor hX1 hX0
    have hrow6 := HS.out.1
    have hB6 := HS.out.2
    clear HS
    rw [← HZ.out.1] at hrow6 hX10 ⊢
    have hbase : w4.heap.size ≤ w6.heap.size := Nat.le_of_lt (Nat.lt_of_le_of_lt hgB (by have := (hrow6.lt g rfl).2; exact this))
    have HR := hid (And.intro hrow6 (And.intro hB6 (And.intro hbase hX10)))
    have hwb := HZ.out.2.2.2
    clear hrow6 hB6 hbase
    go_wp2_with (
      at_builtin
      refine wpList_append_byte rfl _ _ rfl rfl HR.out.1 0 w6.heap.size rfl rfl rfl (Nat.le_trans HR.out.2.2.2 (by omega)) HR.out.2.2.1 ?_
      intro v7 w7 hown7 hb7
      obtain ⟨A7, c7, rfl, _, _, hs7⟩ := Sl.row hown7)
    have hB7 := HR.out.2.1.trans (hb7.mono hwb)
    have hln : (Z ++ [(0 : Int)]).length ≤ 1000000 := by rw [List.length_append, List.length_singleton]; have := HR.out.2.2.2; omega
    have hnr := newReader_any A7 c7 (Z ++ [0]) w7 hs7 hln HZ.out.2.1
    rw [List.length_append] at hnr
    clear hown7 hb7 hs7
    refine hnr.mono ?_
    rintro e w8 ⟨r, rfl, hR8, hr8, hb8⟩
    have hB8 := hB7.trans (hb8.mono hB7.size)
    have hrW := Nat.le_trans hB7.size hr8
    have hE8 := hE.below hB8
    have hnum : numR (Z ++ [0]) (-9223372036854775808) 9223372036854775807 0 none = (0, 0, some (102, 0)) := by rw [numR, List.drop_zero, HZ.out.2.2.1]; rfl
    have hn := num_any (o := none) (-9223372036854775808) 9223372036854775807 _ hE8 ⟨_, hR8, rfl⟩
    rw [hnum] at hn
    clear hnr hnum hR8 hr8 hb8 hB7 hln
    go_wp2_with fail
    refine hn.mono ?_
    rintro e w9 ⟨rfl, ⟨ev, hR9, B, rfl, hb9, hBr⟩, he9⟩
    have hB9 : Below w.heap.size w w9 := he9.below hB8 hB8.size (fun i hi h => by omega)
    clear hn he9 hB8 hE8
    go_wp2_with fail
    refine (errOf_any _ hR9).mono ?_
    rintro e w' ⟨rfl, rfl⟩
    go_wp2_with fail
    refine (placed_any 102 0 (by decide) _).mono ?_
    rintro e w10 ⟨rfl, hb10⟩
    have hB10 := hB9.trans (hb10.mono hB9.size)
    have hR10 := hR9.on hb10
    have hBlk := (Eff.of_below (S := fun _ => False) hb10).blk hb9 (fun h => h)
    clear hR9 hb9 hb10 hB9
    go_wp2_with fail
    refine (same_at (hE.below hB10) (IsErr.mk (by decide)) hBlk).mono ?_
    rintro e w11 ⟨rfl, hb11⟩
    have hB11 := hB10.trans (hb11.mono hB10.size)
    have hR11 := hR10.on hb11
    clear hR10 hBlk hb11 hB10
    go_wp2_with fail
    refine (at_any _ hR11).mono ?_
    rintro e w' ⟨rfl, rfl⟩
    go_wp2_with fail
    go_ret
    exact ⟨rfl, hB11⟩
end Go.Proofs.YtogcbiooddodlaaDoor
