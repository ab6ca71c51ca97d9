/- MailPlays: the walk. -/
import Derived.Test.YtnhfnklbeifbhaaMailSteps
import Derived.Test.YtnhfnklbeifbhaaOpen
import Derived.Deep.CutBlock
namespace Go.Proofs.Ytnhfnklbeifbhaa
open Go.RowKit Go.Deep Go.ChangeShapes Go.WideShapes
set_option linter.unusedSimpArgs false

/-- Something told, as it lies in memory. -/
structure MDo where
  kind : Int
  a : Int
  b : Int
  bA : Option Addr
  bs : List Int
  bC : Nat
abbrev MDo.cells (d : MDo) : List Value := [.int .i64 d.kind, .int .i64 d.a, .int .i64 d.b, .slice d.bA d.bs.length d.bC]
theorem MDo.len (d : MDo) : d.cells.length = 4 := rfl
def MDo.ok (w : World) (d : MDo) : Prop := Sl w d.bA (d.bs.map (Value.int .u8)) ∧ d.bs.length ≤ maxLen
theorem row_mdo : fieldRow Try.prog 46 = some [(3, 0), (3, 1), (3, 2), (28, 3)] := by kernel_rfl
theorem cells_mdo : Try.prog.cellsOf 46 = 4 := by kernel_rfl
theorem cells_int : Try.prog.cellsOf 3 = 1 := by kernel_rfl
theorem cells_sbytes : Try.prog.cellsOf 28 = 1 := by kernel_rfl
/-- What the shell of a row tells of a slice of bytes, as the walks want it. -/
theorem sl_of_bytes {w : World} {x : Addr} {zs : List Int} {len : Nat} (hlen : len ≤ zs.length) (hc : ∀ i, i < zs.length → w.cell? (x.add i) = some (.int .u8 (zs.getD i 0))) : Sl w (some x) ((zs.take len).map (Value.int .u8)) := by
  by_cases h0 : len = 0
  · subst h0
    exact .inl (by simp)
  · have c0 := hc 0 (by omega)
    rw [show x.add 0 = x from by simp [Addr.add]] at c0
    obtain ⟨b, o, s⟩ := x
    cases s with
    | some s =>
      exfalso
      simp only [World.cell?] at c0
      split at c0 <;> simp at c0
    | none =>
      refine .inr ⟨b, o, rfl, World.block_lt_of_cell? w _ c0, fun k hk => ?_⟩
      have hk' : k < zs.length := by
        simp only [List.length_map, List.length_take] at hk
        omega
      have := hc k hk'
      rw [add_at] at this
      rw [this]
      have hk2 : k < len := by
        simp only [List.length_map, List.length_take] at hk
        omega
      simp [hk2, List.getD_eq_getElem?_getD, List.getElem?_eq_getElem hk']
section
variable {H : Type} {enc : TypeId × Value → H} {w : World} {base : Nat} {spare : Nat → Bool} {held : Bool}
theorem open_mdo (n : Nat) (cs : List Value) (x : DataW H × List MemPlace) (h : DataW.trod enc Try.prog w base spare held n 46 cs = some x) : ∃ d : MDo, cs = d.cells ∧ d.ok w := by
  obtain ⟨hl, n, hf⟩ := open_struct row_mdo h
  rw [cells_mdo] at hl
  obtain ⟨c0, c1, c2, c3, rfl⟩ := list4 hl
  obtain ⟨y0, h0⟩ := hf 0 _ rfl
  obtain ⟨y1, h1⟩ := hf 1 _ rfl
  obtain ⟨y2, h2⟩ := hf 2 _ rfl
  obtain ⟨y3, h3⟩ := hf 3 _ rfl
  simp only [cells_int, cells_sbytes] at h0 h1 h2 h3
  obtain ⟨a0, e0, _, _⟩ := DataW.trod_int Try.underlying3 h0
  obtain ⟨a1, e1, _, _⟩ := DataW.trod_int Try.underlying3 h1
  obtain ⟨a2, e2, _, _⟩ := DataW.trod_int Try.underlying3 h2
  simp at e0 e1 e2
  obtain ⟨mA, ms, mC, e3, hs, hml⟩ : ∃ (A : Option Addr) (ms : List Int) (C : Nat), c3 = .slice A ms.length C ∧ Sl w A (ms.map (Value.int .u8)) ∧ ms.length ≤ maxLen := by
    rcases open_ints Try.underlying28 Try.underlying5 (by kernel_rfl) h3 with ⟨hcs, _⟩ | ⟨a, l, C, zs, hcs, _, hl, hm, hz, _, hcell, _⟩
    · simp at hcs
      exact ⟨none, [], 0, hcs, .inl rfl, Nat.zero_le _⟩
    · simp at hcs
      have hlz : l ≤ zs.length := by rw [hz]; split <;> omega
      refine ⟨some a, zs.take l, C, by rw [hcs, List.length_take, Nat.min_eq_left hlz], sl_of_bytes hlz hcell, ?_⟩
      rw [List.length_take]
      omega
  exact ⟨⟨a0, a1, a2, mA, ms, mC⟩, by rw [e0, e1, e2, e3], hs, hml⟩
end
theorem mdo_cells {w : World} {b o : Nat} {ds : List MDo} (hc : ∀ k, k < (ds.flatMap MDo.cells).length → w.cell? ⟨b, o + k, none⟩ = (ds.flatMap MDo.cells)[k]?) (k : Nat) (d : MDo) (hd : ds[k]? = some d) :
    ∀ j, j < 4 → w.cell? ⟨b, o + (k * 4 + j), none⟩ = d.cells[j]? := fun j hj => by
  have hk : k < ds.length := (List.getElem?_eq_some_iff.1 hd).1
  rw [hc (k * 4 + j) (by rw [flat_length MDo.len]; omega)]
  have := flat_get MDo.len ds [] k j d hd hj
  simpa using this

theorem zero_rmail (w : World) : (zeroValue 44).run Try.prog w = .ok (.agg #[.slice none 0 0, .int .i64 0]) w := by kernel_rfl
def PairM (W : World) (b rb k : Nat) (w : World) : Prop :=
  ∃ (F R : Nat → Prop) (D : List Fr), MailL w b F D 0 ∧ RMailL w rb R D 0 ∧ (∀ j, F j → ¬ R j) ∧ (∀ j, F j → W.heap.size ≤ j) ∧ (∀ j, R j → W.heap.size ≤ j) ∧ Below W.heap.size W w ∧ Fits D k
def PlaysRel (W : World) (b rb n : Nat) (i : Value) (wr : World) : Prop := ∃ k : Nat, k ≤ n ∧ i = .int .i64 k ∧ PairM W b rb k wr
def Mid (W : World) (b rb cb db : Nat) (dc : List Value) (T : TypeId) (k : Nat) (D0 : List Fr) (wx : World) : Prop :=
  ∃ (F R C : Nat → Prop) (D : List Fr), Trio W b rb cb db dc T F R C D D D0 wx ∧ Fits D (k + 1)
def AllM (W : World) (b rb : Nat) (v : Value) (D : List Fr) (F R A : Nat → Prop) (i : Value) (wr : World) : Prop :=
  ∃ k : Nat, k ≤ D.length ∧ i = .int .i64 k ∧ MailL wr b F D 0 ∧ RMailL wr rb R D 0 ∧ ListL wr v A D ∧ Below W.heap.size W wr
attribute [irreducible] PlaysRel Mid AllM
theorem bool_ne (q : Bool) : (q != q) = false := by simp

set_option maxRecDepth 100000 in
set_option maxHeartbeats 16000000 in
theorem mailPlays_walk (A : Option Addr) (c : Nat) (ds : List MDo) (w : World) (hx : Sl w A (ds.flatMap MDo.cells)) (hr : ∀ d ∈ ds, d.ok w) (hrl : ds.length ≤ 9223372036854775807) :
    Calls Try.prog 6 #[.slice A ds.length c] w (SaysTrue w) := by
  have hz := zero_mail
  have hz2 := zero_rmail
  by_cases hn : ds.length ≤ 60
  · have hn' : ¬ 60 < (ds.length : Int) := by omega
    go_enter Try.func6, Try.ntmps6
    go_wp2_with fail
    refine (first_any _).mono ?_
    rintro e w1 ⟨rfl, hB1⟩
    go_upto_region 8 with (fail)
    obtain ⟨w2, hw2⟩ : ∃ w2, w2 = w1.alloc (.cells #[.slice none 0 0, .int .i64 0] 26) := ⟨_, rfl⟩
    have hm2 : MailL w2 w1.heap.size (· = w1.heap.size) [] 0 := MailL.new (by rw [hw2]; exact Blk.new w1 _ _)
    have hB2 : Below w.heap.size w w2 := by rw [hw2]; exact hB1.alloc hB1.size _
    have hs2 : w2.heap.size = w1.heap.size + 1 := by rw [hw2]; simp
    rw [← hw2]
    obtain ⟨w3, hw3⟩ : ∃ w3, w3 = w2.alloc (.cells #[.slice none 0 0, .int .i64 0] 44) := ⟨_, rfl⟩
    have hr3 : RMailL w3 (w1.heap.size + 1) (· = w1.heap.size + 1) [] 0 := RMailL.new (by rw [hw3, ← hs2]; exact Blk.new w2 _ _)
    have hb3 : Below w2.heap.size w2 w3 := by rw [hw3]; exact (Below.refl _ _).alloc (Nat.le_refl _) _
    rw [← hw3]
    have hp3 : PairM w w1.heap.size (w1.heap.size + 1) 0 w3 := ⟨_, _, [], hm2.below hb3, hr3, (fun j h1 h2 => by omega), (fun j h => by have := hB1.size; omega), (fun j h => by have := hB1.size; omega), hB2.trans (hb3.mono hB2.size), Nat.zero_le _, (fun p hp => by cases hp)⟩
    have hbW := hB1.size
    clear hw2 hw3 hm2 hB2 hs2 hr3 hb3 hB1
    generalize w1.heap.size = b at *
    obtain ⟨rb, hrb⟩ : ∃ rb, b + 1 = rb := ⟨_, rfl⟩
    rw [hrb] at hp3
    rw [hrb]
    have hbr : b < rb := by omega
    clear hrb
    go_wp2_with fail
    go_loopw [6] (fun i wr => PlaysRel w b rb ds.length i wr) (fun i _ => ds.length - (intOf i).toNat)
    case atStart => unfold PlaysRel; exact ⟨0, by omega, rfl, hp3⟩
    case round =>
      clear hp3
      unfold PlaysRel at hrel
      obtain ⟨k, hk, rfl, F, R, D, hm, hrm, hFR, hGF, hGR, hB, hfit⟩ := hrel
      by_cases hlt : k < ds.length
      · obtain ⟨b0, o0, rfl, hbw, hcx⟩ := hx.at (by rw [flat_length MDo.len]; omega)
        obtain ⟨d, hd⟩ : ∃ d, ds[k]? = some d := ⟨ds[k], List.getElem?_eq_getElem hlt⟩
        obtain ⟨hdx, hdl⟩ := hr d (List.mem_of_getElem? hd)
        have hcell : ∀ j, j < 4 → wr.cell? ⟨b0, o0 + (k * 4 + j), none⟩ = d.cells[j]? := fun j hj => (hB.cell (p := ⟨b0, o0 + (k * 4 + j), none⟩) hbw).trans (mdo_cells hcx k d hd j hj)
        have d0 : wr.cell? ⟨b0, o0 + k * 4, none⟩ = some (.int .i64 d.kind) := hcell 0 (by omega)
        have d1 : wr.cell? ⟨b0, o0 + k * 4 + 1, none⟩ = some (.int .i64 d.a) := hcell 1 (by omega)
        have d2 : wr.cell? ⟨b0, o0 + k * 4 + 2, none⟩ = some (.int .i64 d.b) := hcell 2 (by omega)
        have d3 : wr.cell? ⟨b0, o0 + k * 4 + 3, none⟩ = some (.slice d.bA d.bs.length d.bC) := hcell 3 (by omega)
        obtain ⟨kind, da, dbb, bA, bs, bC⟩ := d
        have HX := hid (And.intro hdx hfit)
        unfold maxLen at hdl
        simp only at d0 d1 d2 d3 hdl
        clear hcell hcx hd hx hr hdx hfit
        go_upto_region 12 with (fail)
        obtain ⟨w4, hw4⟩ : ∃ w4, w4 = wr.alloc (.cells #[.int .i64 kind, .int .i64 da, .int .i64 dbb, .slice bA bs.length bC] 46) := ⟨_, rfl⟩
        have hD4 : Blk w4 wr.heap.size [.int .i64 kind, .int .i64 da, .int .i64 dbb, .slice bA bs.length bC] 46 := by rw [hw4]; exact Blk.new wr _ _
        have hb4 : Below wr.heap.size wr w4 := by rw [hw4]; exact (Below.refl _ _).alloc (Nat.le_refl _) _
        rw [← hw4]
        clear d0 d1 d2 d3 hw4
        have c3 : w4.cell? ⟨wr.heap.size, 3, none⟩ = some (.slice bA bs.length bC) := hD4.cell 3
        have hB4 := hB.trans (hb4.mono hB.size)
        have hm4 := hm.below hb4
        have hr4 := hrm.below hb4
        have hFd : ¬ F wr.heap.size := fun h => by have := hm.lt _ h; omega
        have hRd : ¬ R wr.heap.size := fun h => by have := hrm.lt _ h; omega
        clear hm hrm hB hb4
        generalize wr.heap.size = db at *
        by_cases hb60 : bs.length ≤ 60
        · have hb60' : ¬ 60 < (bs.length : Int) := by omega
          go_wp2_with fail
          refine (cloneL w4 hm4 (by have := HX.out.2.1; omega) (fun p hp => by have := HX.out.2.2 p hp; omega)).mono ?_
          rintro e w5 ⟨cb, C, rfl, hc5, hC5, hb5⟩
          have hT : Trio w b rb cb db [.int .i64 kind, .int .i64 da, .int .i64 dbb, .slice bA bs.length bC] 46 F R C D D D w5 :=
            ⟨hm4.below hb5, hr4.below hb5, hc5, (Eff.of_below (S := fun _ => False) hb5).blk hD4 (fun h => h), hFR, (fun j h1 h2 => by have := hm4.lt j h1; have := hC5 j h2; omega), (fun j h1 h2 => by have := hr4.lt j h1; have := hC5 j h2; omega),
              hFd, hRd, hGF, hGR, hB4.trans (hb5.mono hB4.size)⟩
          clear hm4 hr4 hc5 hC5 hb5 hD4 hB4 hFR hFd hRd hGF hGR c3
          go_wp2_with fail
          refine (lenL _ hT.c).mono ?_
          rintro e w' ⟨rfl, rfl⟩
          have c0 : w5.cell? ⟨db, 0, none⟩ = some (.int .i64 kind) := hT.d.cell 0
          go_upto_block 2 with (fail)
          go_cut [] (fun wx => Mid w b rb cb db [.int .i64 kind, .int .i64 da, .int .i64 dbb, .slice bA bs.length bC] 46 k D wx)
          case first =>
            by_cases hk1 : kind = 1
            · have hkb : (kind == 1) = true := by simpa using hk1
              clear hk1
              go_wp2_with fail
              clear c0 hkb
              have hT5 := hT.on ((Below.refl _ _).drew (a := w5))
              have hx5 : It.here w5.drew ⟨da, bA, bC, bs⟩ := It.here.below (x := ⟨da, bA, bC, bs⟩) HX.out.1 hT5.below
              clear hT
              refine wp_region_held_drew (S := fun w' => w'.cell? ⟨db, 1, none⟩ = some (.int .i64 da) ∧ w'.cell? ⟨db, 3, none⟩ = some (.slice bA bs.length bC)) (by kernel_rfl) ?_ (fun hHeld => ?_)
              · (try dsimp only); (first | exact ⟨hT5.d.cell 1, hT5.d.cell 3⟩ | exact ⟨hT6.d.cell 1, hT6.d.cell 3⟩ | exact ⟨hT7.d.cell 1, hT7.d.cell 3⟩)
              refine held_take 0 ?_ rfl (by kernel_rfl) (by kernel_rfl) (by kernel_rfl) (fun _ _ _ h => h) (by rfl) ?_ hHeld ?_
              rotate_left
              · (intro w hSw; (try dsimp only at hSw); go_simp; try with_reducible rfl)
              try simp only [Act.put, List.setIfInBounds_toArray, List.set_cons_zero, List.set_cons_succ]
              refine held_take 1 ?_ rfl (by kernel_rfl) (by kernel_rfl) (by kernel_rfl) (fun _ _ _ h => h) (by rfl) ?_ hHeld ?_
              rotate_left
              · (intro w hSw; (try dsimp only at hSw); go_simp; try with_reducible rfl)
              try simp only [Act.put, List.setIfInBounds_toArray, List.set_cons_zero, List.set_cons_succ]
              refine held_take 2 ?_ rfl (by kernel_rfl) (by kernel_rfl) (by kernel_rfl) (fun _ _ _ h => h) (by rfl) ?_ hHeld ?_
              rotate_left
              · (intro w hSw; (try dsimp only at hSw); go_simp; try with_reducible rfl)
              try simp only [Act.put, List.setIfInBounds_toArray, List.set_cons_zero, List.set_cons_succ]
              refine held_take 3 ?_ rfl (by kernel_rfl) (by kernel_rfl) (by kernel_rfl) (fun _ _ _ h => h) (by rfl) ?_ hHeld ?_
              rotate_left
              · (intro w hSw; (try dsimp only at hSw); go_simp; try with_reducible rfl)
              try simp only [Act.put, List.setIfInBounds_toArray, List.set_cons_zero, List.set_cons_succ]
              refine held_take 4 ?_ rfl (by kernel_rfl) (by kernel_rfl) (by kernel_rfl) (fun _ _ _ h => h) (by rfl) ?_ hHeld ?_
              rotate_left
              · (intro w hSw; (try dsimp only at hSw); go_simp; try with_reducible rfl)
              try simp only [Act.put, List.setIfInBounds_toArray, List.set_cons_zero, List.set_cons_succ]
              refine held_take 6 ?_ rfl (by kernel_rfl) (by kernel_rfl) (by kernel_rfl) (fun _ _ _ h => h) (by rfl) ?_ hHeld ?_
              rotate_left
              · (intro w hSw; (try dsimp only at hSw); go_simp; try with_reducible rfl)
              try simp only [Act.put, List.setIfInBounds_toArray, List.set_cons_zero, List.set_cons_succ]
              refine held_take 7 ?_ rfl (by kernel_rfl) (by kernel_rfl) (by kernel_rfl) (fun _ _ _ h => h) (by rfl) ?_ hHeld ?_
              rotate_left
              · (intro w hSw; (try dsimp only at hSw); go_simp; try with_reducible rfl)
              try simp only [Act.put, List.setIfInBounds_toArray, List.set_cons_zero, List.set_cons_succ]
              refine held_take 8 ?_ rfl (by kernel_rfl) (by kernel_rfl) (by kernel_rfl) (fun _ _ _ h => h) (by rfl) ?_ hHeld ?_
              rotate_left
              · (intro w hSw; (try dsimp only at hSw); go_simp; try with_reducible rfl)
              try simp only [Act.put, List.setIfInBounds_toArray, List.set_cons_zero, List.set_cons_succ]
              refine held_take 9 ?_ rfl (by kernel_rfl) (by kernel_rfl) (by kernel_rfl) (fun _ _ _ h => h) (by rfl) ?_ hHeld ?_
              rotate_left
              · (intro w hSw; (try dsimp only at hSw); go_simp; try with_reducible rfl)
              try simp only [Act.put, List.setIfInBounds_toArray, List.set_cons_zero, List.set_cons_succ]
              refine held_take 10 ?_ rfl (by kernel_rfl) (by kernel_rfl) (by kernel_rfl) (fun _ _ _ h => h) (by rfl) ?_ hHeld ?_
              rotate_left
              · (intro w hSw; (try dsimp only at hSw); go_simp; try with_reducible rfl)
              try simp only [Act.put, List.setIfInBounds_toArray, List.set_cons_zero, List.set_cons_succ]
              refine held_one 5 rfl (by kernel_rfl) (by rfl) (fun K hK => ?_)
              go_simp
              refine (putS ⟨da, bA, bC, bs⟩ _ hT5.m hx5 HX.out.2 (by omega) hb60).mono ?_
              rintro e w6 ⟨F6, rfl, hm6, hF6, he6⟩
              have hT6 := hT5.mail hm6 hF6 he6
              have hx6 : It.here w6 ⟨da, bA, bC, bs⟩ := It.here.below (x := ⟨da, bA, bC, bs⟩) HX.out.1 hT6.below
              clear hT5 hx5 hm6 hF6 he6
              refine hK.out _ _ ?_ (fun hHeld2 => ?_)
              · (try dsimp only); (first | exact ⟨hT5.d.cell 1, hT5.d.cell 3⟩ | exact ⟨hT6.d.cell 1, hT6.d.cell 3⟩ | exact ⟨hT7.d.cell 1, hT7.d.cell 3⟩)
              clear hK K hHeld
              have hHeld := hHeld2
              clear hHeld2
              try simp only [Act.put, List.setIfInBounds_toArray, List.set_cons_zero, List.set_cons_succ]
              refine held_one 11 rfl (by kernel_rfl) (by rfl) (fun K hK => ?_)
              go_simp
              refine (rPutS ⟨da, bA, bC, bs⟩ _ hT6.r hx6 HX.out.2 (by omega) hb60).mono ?_
              rintro e w7 ⟨R7, rfl, hr7, hR7, he7⟩
              have hT7 := hT6.ref hr7 hR7 he7
              clear hT6 hx6 hr7 hR7 he7
              refine hK.out _ _ ?_ (fun hHeld2 => ?_)
              · (try dsimp only); (first | exact ⟨hT5.d.cell 1, hT5.d.cell 3⟩ | exact ⟨hT6.d.cell 1, hT6.d.cell 3⟩ | exact ⟨hT7.d.cell 1, hT7.d.cell 3⟩)
              clear hK K hHeld
              have hHeld := hHeld2
              clear hHeld2
              try simp only [Act.put, List.setIfInBounds_toArray, List.set_cons_zero, List.set_cons_succ]
              refine held_take 12 ?_ rfl (by kernel_rfl) (by kernel_rfl) (by kernel_rfl) (fun _ _ _ h => h) (by rfl) ?_ hHeld ?_
              rotate_left
              · (intro w hSw; (try dsimp only at hSw); go_simp; try with_reducible rfl)
              try simp only [Act.put, List.setIfInBounds_toArray, List.set_cons_zero, List.set_cons_succ]
              refine wpAnyH_done (by kernel_rfl) ?_ _
              clear hHeld
              go_wp2_with fail
              go_meet
              unfold Mid
              exact ⟨F6, R7, C, _, hT7, HX.out.2.put _ hb60⟩
            · have hkb : (kind == 1) = false := by simpa using hk1
              by_cases hk2 : kind = 2
              · have hkb2 : (kind == 2) = true := by simpa using hk2
                clear hk1 hk2
                obtain ⟨p, hp⟩ : ∃ p, itemD D da = p := ⟨_, rfl⟩
                obtain ⟨q, hq⟩ : ∃ q, inR D da = q := ⟨_, rfl⟩
                obtain ⟨D6, hD6⟩ : ∃ D6, takeD D da = D6 := ⟨_, rfl⟩
                have hpl : p.2.length ≤ 60 := by rw [← hp]; exact HX.out.2.item da
                have hf6 : Fits D6 (k + 1) := by rw [← hD6]; exact HX.out.2.take da
                have HQ := hid (And.intro hpl (And.intro hf6 (And.intro hp (And.intro hq hD6))))
                have ht := takeS da _ hT.m
                rw [hp, hq, hD6] at ht
                have HT := hid ht
                have c1 : w5.cell? ⟨db, 1, none⟩ = some (.int .i64 da) := hT.d.cell 1
                clear hpl hf6 ht hp hq hD6
                go_upto_region 21 with (fail)
                clear c0 hkb hkb2
                go_wp2_with fail
                refine HT.out.mono ?_
                clear HT c1
                rintro e w6 ⟨F6, A6, k6, rfl, hm6, hF6, hx6, ho6, he6⟩
                have hT6 := hT.mail hm6 hF6 he6
                have hoR : It.off R ⟨p.1, A6, k6, p.2⟩ := fun a ha h => hT.fr _ (ho6 a ha).2 h
                clear hT hm6 hF6 ho6 he6
                go_upto_region 22 with (fail)
                obtain ⟨w7, hw7⟩ : ∃ w7, w7 = w6.alloc (.cells #[.int .i64 p.1, .slice A6 p.2.length k6] 31) := ⟨_, rfl⟩
                have hb7 : Below w6.heap.size w6 w7 := by rw [hw7]; exact (Below.refl _ _).alloc (Nat.le_refl _) _
                have hX7 : Blk w7 w6.heap.size [.int .i64 p.1, .slice A6 p.2.length k6] 31 := by rw [hw7]; exact Blk.new w6 _ _
                have hT7 := hT6.on hb7
                have hx7 : It.here w7 ⟨p.1, A6, k6, p.2⟩ := It.here.below hx6 hb7
                have hX7R : ¬ R w6.heap.size := fun h => by have := hT6.r.lt _ h; omega
                have c1 : w7.cell? ⟨db, 1, none⟩ = some (.int .i64 da) := hT7.d.cell 1
                have ht := rTakeS da _ hT7.r HX.out.2 (by omega)
                rw [HQ.out.2.2.1, HQ.out.2.2.2.1, HQ.out.2.2.2.2] at ht
                have HT := hid ht
                rw [← hw7]
                clear ht hw7 hb7 hT6 hx6
                generalize w6.heap.size = X at *
                go_wp2_with fail
                refine HT.out.mono ?_
                clear HT c1
                rintro e w8 ⟨R8, A8, k8, rfl, hr8, hR8, hx8, ho8, he8⟩
                have hT8 := hT7.ref hr8 hR8 he8
                have hX8 := he8.blk hX7 hX7R
                have hy8 : It.here w8 ⟨p.1, A6, k6, p.2⟩ := It.here.eff hx7 he8 hoR
                clear hT7 hX7 hX7R hx7 hoR hr8 hR8 ho8 he8
                go_upto_region 23 with (fail)
                obtain ⟨w9, hw9⟩ : ∃ w9, w9 = w8.alloc (.cells #[.int .i64 p.1, .slice A8 p.2.length k8] 48) := ⟨_, rfl⟩
                have hb9 : Below w8.heap.size w8 w9 := by rw [hw9]; exact (Below.refl _ _).alloc (Nat.le_refl _) _
                have hY9 : Blk w9 w8.heap.size [.int .i64 p.1, .slice A8 p.2.length k8] 48 := by rw [hw9]; exact Blk.new w8 _ _
                have hX9 := (Eff.of_below (S := fun _ => False) hb9).blk hX8 (fun h => h)
                have hT9 := hT8.on hb9
                have hx9 : It.here w9 ⟨p.1, A8, k8, p.2⟩ := It.here.below hx8 hb9
                have hy9 : It.here w9 ⟨p.1, A6, k6, p.2⟩ := It.here.below hy8 hb9
                rw [← hw9]
                clear hw9 hb9 hX8 hT8 hx8 hy8
                have x0 : w9.cell? ⟨X, 0, none⟩ = some (.int .i64 p.1) := hX9.cell 0
                have x1 : w9.cell? ⟨X, 1, none⟩ = some (.slice A6 p.2.length k6) := hX9.cell 1
                have y0 : w9.cell? ⟨w8.heap.size, 0, none⟩ = some (.int .i64 p.1) := hY9.cell 0
                have y1 : w9.cell? ⟨w8.heap.size, 1, none⟩ = some (.slice A8 p.2.length k8) := hY9.cell 1
                have hs := sameBytes_same A6 A8 k6 k8 p.2 _ hy9 hx9 (by have := HQ.out.1; omega)
                have HS := hid hs
                have hq1 := bool_ne q
                have hq2 : (p.1 != p.1) = false := by simp
                clear hX9 hY9 hs hx9 hy9
                go_wp2_with fail
                refine HS.out.mono ?_
                rintro e w' ⟨rfl, nq, rfl⟩
                have hT10 := hT9.on (below_drewN (Below.refl _ _) nq)
                clear HS x0 x1 y0 y1 hq1 hq2 hT9
                go_wp2_with fail
                go_meet
                unfold Mid
                exact ⟨F6, R8, C, D6, hT10, HQ.out.2.1⟩
              · have hkb2 : (kind == 2) = false := by simpa using hk2
                by_cases hk3 : kind = 3
                · have hkb3 : (kind == 3) = true := by simpa using hk3
                  clear hk1 hk2 hk3
                  go_wp2_with fail
                  clear c0 hkb hkb2 hkb3
                  obtain ⟨q, hq⟩ : ∃ q, inR D da = q := ⟨_, rfl⟩
                  have hq1 := bool_ne q
                  have HQ := hid hq
                  clear hq
                  have hT5 := hT.on ((Below.refl _ _).drew (a := w5))
                  clear hT
                  refine wp_region_held_drew (S := fun w' => w'.cell? ⟨db, 1, none⟩ = some (.int .i64 da)) (by kernel_rfl) ?_ (fun hHeld => ?_)
                  · (try dsimp only); (first | exact hT5.d.cell 1 | exact hT6.d.cell 1 | exact hT7.d.cell 1)
                  refine held_take 0 ?_ rfl (by kernel_rfl) (by kernel_rfl) (by kernel_rfl) (fun _ _ _ h => h) (by rfl) ?_ hHeld ?_
                  rotate_left
                  · (intro w hSw; (try dsimp only at hSw); go_simp; try with_reducible rfl)
                  try simp only [Act.put, List.setIfInBounds_toArray, List.set_cons_zero, List.set_cons_succ]
                  refine held_take 1 ?_ rfl (by kernel_rfl) (by kernel_rfl) (by kernel_rfl) (fun _ _ _ h => h) (by rfl) ?_ hHeld ?_
                  rotate_left
                  · (intro w hSw; (try dsimp only at hSw); go_simp; try with_reducible rfl)
                  try simp only [Act.put, List.setIfInBounds_toArray, List.set_cons_zero, List.set_cons_succ]
                  refine held_take 2 ?_ rfl (by kernel_rfl) (by kernel_rfl) (by kernel_rfl) (fun _ _ _ h => h) (by rfl) ?_ hHeld ?_
                  rotate_left
                  · (intro w hSw; (try dsimp only at hSw); go_simp; try with_reducible rfl)
                  try simp only [Act.put, List.setIfInBounds_toArray, List.set_cons_zero, List.set_cons_succ]
                  refine held_take 4 ?_ rfl (by kernel_rfl) (by kernel_rfl) (by kernel_rfl) (fun _ _ _ h => h) (by rfl) ?_ hHeld ?_
                  rotate_left
                  · (intro w hSw; (try dsimp only at hSw); go_simp; try with_reducible rfl)
                  try simp only [Act.put, List.setIfInBounds_toArray, List.set_cons_zero, List.set_cons_succ]
                  refine held_take 5 ?_ rfl (by kernel_rfl) (by kernel_rfl) (by kernel_rfl) (fun _ _ _ h => h) (by rfl) ?_ hHeld ?_
                  rotate_left
                  · (intro w hSw; (try dsimp only at hSw); go_simp; try with_reducible rfl)
                  try simp only [Act.put, List.setIfInBounds_toArray, List.set_cons_zero, List.set_cons_succ]
                  refine held_take 6 ?_ rfl (by kernel_rfl) (by kernel_rfl) (by kernel_rfl) (fun _ _ _ h => h) (by rfl) ?_ hHeld ?_
                  rotate_left
                  · (intro w hSw; (try dsimp only at hSw); go_simp; try with_reducible rfl)
                  try simp only [Act.put, List.setIfInBounds_toArray, List.set_cons_zero, List.set_cons_succ]
                  refine held_one 3 rfl (by kernel_rfl) (by rfl) (fun K hK => ?_)
                  go_simp
                  refine (copyS da _ hT5.m HX.out.2 (by omega)).mono ?_
                  rw [HQ.out]
                  rintro e w6 ⟨F6, rfl, hm6, hF6, he6⟩
                  have hT6 := hT5.mail hm6 hF6 he6
                  clear hT5 hm6 hF6 he6
                  refine hK.out _ _ ?_ (fun hHeld2 => ?_)
                  · (try dsimp only); (first | exact hT5.d.cell 1 | exact hT6.d.cell 1 | exact hT7.d.cell 1)
                  clear hK K hHeld
                  have hHeld := hHeld2
                  clear hHeld2
                  try simp only [Act.put, List.setIfInBounds_toArray, List.set_cons_zero, List.set_cons_succ]
                  refine held_one 7 rfl (by kernel_rfl) (by rfl) (fun K hK => ?_)
                  go_simp
                  refine (againS da _ hT6.r HX.out.2 (by omega)).mono ?_
                  rw [HQ.out]
                  rintro e w7 ⟨R7, rfl, hr7, hR7, he7⟩
                  have hT7 := hT6.ref hr7 hR7 he7
                  clear hT6 hr7 hR7 he7
                  refine hK.out _ _ ?_ (fun hHeld2 => ?_)
                  · (try dsimp only); (first | exact hT5.d.cell 1 | exact hT6.d.cell 1 | exact hT7.d.cell 1)
                  clear hK K hHeld
                  have hHeld := hHeld2
                  clear hHeld2
                  try simp only [Act.put, List.setIfInBounds_toArray, List.set_cons_zero, List.set_cons_succ]
                  refine held_take 8 ?_ rfl (by kernel_rfl) (by kernel_rfl) (by kernel_rfl) (fun _ _ _ h => h) (by rfl) ?_ hHeld ?_
                  rotate_left
                  · (intro w hSw; (try dsimp only at hSw); go_simp; try with_reducible rfl)
                  try simp only [Act.put, List.setIfInBounds_toArray, List.set_cons_zero, List.set_cons_succ]
                  refine wpAnyH_done (by kernel_rfl) ?_ _
                  clear hHeld
                  go_wp2_with fail
                  go_meet
                  unfold Mid
                  exact ⟨F6, R7, C, _, hT7, HX.out.2.copy da⟩
                · have hkb3 : (kind == 3) = false := by simpa using hk3
                  by_cases hk4 : kind = 4
                  · have hkb4 : (kind == 4) = true := by simpa using hk4
                    clear hk1 hk2 hk3 hk4
                    go_wp2_with fail
                    clear c0 hkb hkb2 hkb3 hkb4
                    obtain ⟨q, hq⟩ : ∃ q, (inR D da && inR D dbb) = q := ⟨_, rfl⟩
                    have hq1 := bool_ne q
                    have HQ := hid hq
                    clear hq
                    have hT5 := hT.on ((Below.refl _ _).drew (a := w5))
                    clear hT
                    refine wp_region_held_drew (S := fun w' => w'.cell? ⟨db, 1, none⟩ = some (.int .i64 da) ∧ w'.cell? ⟨db, 2, none⟩ = some (.int .i64 dbb)) (by kernel_rfl) ?_ (fun hHeld => ?_)
                    · (try dsimp only); (first | exact ⟨hT5.d.cell 1, hT5.d.cell 2⟩ | exact ⟨hT6.d.cell 1, hT6.d.cell 2⟩ | exact ⟨hT7.d.cell 1, hT7.d.cell 2⟩)
                    refine held_take 0 ?_ rfl (by kernel_rfl) (by kernel_rfl) (by kernel_rfl) (fun _ _ _ h => h) (by rfl) ?_ hHeld ?_
                    rotate_left
                    · (intro w hSw; (try dsimp only at hSw); go_simp; try with_reducible rfl)
                    try simp only [Act.put, List.setIfInBounds_toArray, List.set_cons_zero, List.set_cons_succ]
                    refine held_take 1 ?_ rfl (by kernel_rfl) (by kernel_rfl) (by kernel_rfl) (fun _ _ _ h => h) (by rfl) ?_ hHeld ?_
                    rotate_left
                    · (intro w hSw; (try dsimp only at hSw); go_simp; try with_reducible rfl)
                    try simp only [Act.put, List.setIfInBounds_toArray, List.set_cons_zero, List.set_cons_succ]
                    refine held_take 2 ?_ rfl (by kernel_rfl) (by kernel_rfl) (by kernel_rfl) (fun _ _ _ h => h) (by rfl) ?_ hHeld ?_
                    rotate_left
                    · (intro w hSw; (try dsimp only at hSw); go_simp; try with_reducible rfl)
                    try simp only [Act.put, List.setIfInBounds_toArray, List.set_cons_zero, List.set_cons_succ]
                    refine held_take 3 ?_ rfl (by kernel_rfl) (by kernel_rfl) (by kernel_rfl) (fun _ _ _ h => h) (by rfl) ?_ hHeld ?_
                    rotate_left
                    · (intro w hSw; (try dsimp only at hSw); go_simp; try with_reducible rfl)
                    try simp only [Act.put, List.setIfInBounds_toArray, List.set_cons_zero, List.set_cons_succ]
                    refine held_take 4 ?_ rfl (by kernel_rfl) (by kernel_rfl) (by kernel_rfl) (fun _ _ _ h => h) (by rfl) ?_ hHeld ?_
                    rotate_left
                    · (intro w hSw; (try dsimp only at hSw); go_simp; try with_reducible rfl)
                    try simp only [Act.put, List.setIfInBounds_toArray, List.set_cons_zero, List.set_cons_succ]
                    refine held_take 6 ?_ rfl (by kernel_rfl) (by kernel_rfl) (by kernel_rfl) (fun _ _ _ h => h) (by rfl) ?_ hHeld ?_
                    rotate_left
                    · (intro w hSw; (try dsimp only at hSw); go_simp; try with_reducible rfl)
                    try simp only [Act.put, List.setIfInBounds_toArray, List.set_cons_zero, List.set_cons_succ]
                    refine held_take 7 ?_ rfl (by kernel_rfl) (by kernel_rfl) (by kernel_rfl) (fun _ _ _ h => h) (by rfl) ?_ hHeld ?_
                    rotate_left
                    · (intro w hSw; (try dsimp only at hSw); go_simp; try with_reducible rfl)
                    try simp only [Act.put, List.setIfInBounds_toArray, List.set_cons_zero, List.set_cons_succ]
                    refine held_take 8 ?_ rfl (by kernel_rfl) (by kernel_rfl) (by kernel_rfl) (fun _ _ _ h => h) (by rfl) ?_ hHeld ?_
                    rotate_left
                    · (intro w hSw; (try dsimp only at hSw); go_simp; try with_reducible rfl)
                    try simp only [Act.put, List.setIfInBounds_toArray, List.set_cons_zero, List.set_cons_succ]
                    refine held_take 9 ?_ rfl (by kernel_rfl) (by kernel_rfl) (by kernel_rfl) (fun _ _ _ h => h) (by rfl) ?_ hHeld ?_
                    rotate_left
                    · (intro w hSw; (try dsimp only at hSw); go_simp; try with_reducible rfl)
                    try simp only [Act.put, List.setIfInBounds_toArray, List.set_cons_zero, List.set_cons_succ]
                    refine held_take 10 ?_ rfl (by kernel_rfl) (by kernel_rfl) (by kernel_rfl) (fun _ _ _ h => h) (by rfl) ?_ hHeld ?_
                    rotate_left
                    · (intro w hSw; (try dsimp only at hSw); go_simp; try with_reducible rfl)
                    try simp only [Act.put, List.setIfInBounds_toArray, List.set_cons_zero, List.set_cons_succ]
                    refine held_one 5 rfl (by kernel_rfl) (by rfl) (fun K hK => ?_)
                    go_simp
                    refine (swapS da dbb _ hT5.m).mono ?_
                    rw [HQ.out]
                    rintro e w6 ⟨F6, rfl, hm6, hF6, he6⟩
                    have hT6 := hT5.mail hm6 hF6 he6
                    clear hT5 hm6 hF6 he6
                    refine hK.out _ _ ?_ (fun hHeld2 => ?_)
                    · (try dsimp only); (first | exact ⟨hT5.d.cell 1, hT5.d.cell 2⟩ | exact ⟨hT6.d.cell 1, hT6.d.cell 2⟩ | exact ⟨hT7.d.cell 1, hT7.d.cell 2⟩)
                    clear hK K hHeld
                    have hHeld := hHeld2
                    clear hHeld2
                    try simp only [Act.put, List.setIfInBounds_toArray, List.set_cons_zero, List.set_cons_succ]
                    refine held_one 11 rfl (by kernel_rfl) (by rfl) (fun K hK => ?_)
                    go_simp
                    refine (rSwapS da dbb _ hT6.r).mono ?_
                    rw [HQ.out]
                    rintro e w7 ⟨R7, rfl, hr7, hR7, he7⟩
                    have hT7 := hT6.ref hr7 hR7 he7
                    clear hT6 hr7 hR7 he7
                    refine hK.out _ _ ?_ (fun hHeld2 => ?_)
                    · (try dsimp only); (first | exact ⟨hT5.d.cell 1, hT5.d.cell 2⟩ | exact ⟨hT6.d.cell 1, hT6.d.cell 2⟩ | exact ⟨hT7.d.cell 1, hT7.d.cell 2⟩)
                    clear hK K hHeld
                    have hHeld := hHeld2
                    clear hHeld2
                    try simp only [Act.put, List.setIfInBounds_toArray, List.set_cons_zero, List.set_cons_succ]
                    refine held_take 12 ?_ rfl (by kernel_rfl) (by kernel_rfl) (by kernel_rfl) (fun _ _ _ h => h) (by rfl) ?_ hHeld ?_
                    rotate_left
                    · (intro w hSw; (try dsimp only at hSw); go_simp; try with_reducible rfl)
                    try simp only [Act.put, List.setIfInBounds_toArray, List.set_cons_zero, List.set_cons_succ]
                    refine wpAnyH_done (by kernel_rfl) ?_ _
                    clear hHeld
                    go_wp2_with fail
                    go_meet
                    unfold Mid
                    exact ⟨F6, R7, C, _, hT7, HX.out.2.swap da dbb⟩
                  · have hkb4 : (kind == 4) = false := by simpa using hk4
                    clear hk1 hk2 hk3 hk4
                    go_wp2_with fail
                    go_meet
                    unfold Mid
                    exact ⟨F, R, C, D, hT, HX.out.2.up⟩
          case rest =>
            clear hT c0
            unfold Mid at hcut
            obtain ⟨F6, R6, C6, E, hT6, hf6⟩ := hcut
            have HE := hid hf6
            clear hf6 HX
            go_wp2_with fail
            refine (allL _ hT6.m (by have := HE.out.1; omega) (fun p hp => by have := HE.out.2 p hp; omega)).mono ?_
            rintro e w7 ⟨v, AF, rfl, hl7, hA7, hb7⟩
            have hT7 := hT6.on (hb7.trans ((Below.refl _ _).drew))
            have hl8 := hl7.below (Below.refl _ _).drew
            clear hT6 hl7 hA7 hb7
            obtain ⟨A1, k1, hv⟩ := hl8.form
            obtain ⟨A2, k2, r0, r1⟩ := hT7.r.form
            subst hv
            have hEl : E.length ≤ 100 := by have := HE.out.1; omega
            have hq1 : ((E.length : Int) != (E.length : Int)) = false := by simp
            have hq2 : ((D.length : Int) != (D.length : Int)) = false := by simp
            go_wp2_with fail
            refine wp_region_held_drew (S := fun w' => w'.cell? ⟨rb, 0, none⟩ = some (.slice A2 E.length k2) ∧ w'.cell? ⟨rb, 1, none⟩ = some (.int .i64 0)) (by kernel_rfl) ?_ (fun hHeld => ?_)
            · (try dsimp only); (first | exact ⟨r0, r1⟩)
            refine held_take 0 ?_ rfl (by kernel_rfl) (by kernel_rfl) (by kernel_rfl) (fun _ _ _ h => h) (by rfl) ?_ hHeld ?_
            rotate_left
            · (intro w hSw; (try dsimp only at hSw); go_simp; try with_reducible rfl)
            try simp only [Act.put, List.setIfInBounds_toArray, List.set_cons_zero, List.set_cons_succ]
            refine held_take 1 ?_ rfl (by kernel_rfl) (by kernel_rfl) (by kernel_rfl) (fun _ _ _ h => h) (by rfl) ?_ hHeld ?_
            rotate_left
            · (intro w hSw; (try dsimp only at hSw); go_simp; try with_reducible rfl)
            try simp only [Act.put, List.setIfInBounds_toArray, List.set_cons_zero, List.set_cons_succ]
            refine held_take 2 ?_ rfl (by kernel_rfl) (by kernel_rfl) (by kernel_rfl) (fun _ _ _ h => h) (by rfl) ?_ hHeld ?_
            rotate_left
            · (intro w hSw; (try dsimp only at hSw); go_simp; try with_reducible rfl)
            try simp only [Act.put, List.setIfInBounds_toArray, List.set_cons_zero, List.set_cons_succ]
            refine held_take 3 ?_ rfl (by kernel_rfl) (by kernel_rfl) (by kernel_rfl) (fun _ _ _ h => h) (by rfl) ?_ hHeld ?_
            rotate_left
            · (intro w hSw; (try dsimp only at hSw); go_simp; try with_reducible rfl)
            try simp only [Act.put, List.setIfInBounds_toArray, List.set_cons_zero, List.set_cons_succ]
            refine held_take 4 ?_ rfl (by kernel_rfl) (by kernel_rfl) (by kernel_rfl) (fun _ _ _ h => h) (by rfl) ?_ hHeld ?_
            rotate_left
            · (intro w hSw; (try dsimp only at hSw); go_simp; try with_reducible rfl)
            try simp only [Act.put, List.setIfInBounds_toArray, List.set_cons_zero, List.set_cons_succ]
            refine held_take 5 ?_ rfl (by kernel_rfl) (by kernel_rfl) (by kernel_rfl) (fun _ _ _ h => h) (by rfl) ?_ hHeld ?_
            rotate_left
            · (intro w hSw; (try dsimp only at hSw); go_simp; try with_reducible rfl)
            try simp only [Act.put, List.setIfInBounds_toArray, List.set_cons_zero, List.set_cons_succ]
            refine held_take 6 ?_ rfl (by kernel_rfl) (by kernel_rfl) (by kernel_rfl) (fun _ _ _ h => h) (by rfl) ?_ hHeld ?_
            rotate_left
            · (intro w hSw; (try dsimp only at hSw); go_simp; try with_reducible rfl)
            try simp only [Act.put, List.setIfInBounds_toArray, List.set_cons_zero, List.set_cons_succ]
            refine held_take 7 ?_ rfl (by kernel_rfl) (by kernel_rfl) (by kernel_rfl) (fun _ _ _ h => h) (by rfl) ?_ hHeld ?_
            rotate_left
            · (intro w hSw; (try dsimp only at hSw); go_simp; try with_reducible rfl)
            try simp only [Act.put, List.setIfInBounds_toArray, List.set_cons_zero, List.set_cons_succ]
            refine held_take 8 ?_ rfl (by kernel_rfl) (by kernel_rfl) (by kernel_rfl) (fun _ _ _ h => h) (by rfl) ?_ hHeld ?_
            rotate_left
            · (intro w hSw; (try dsimp only at hSw); go_simp; try with_reducible rfl)
            try simp only [Act.put, List.setIfInBounds_toArray, List.set_cons_zero, List.set_cons_succ]
            refine held_take 9 ?_ rfl (by kernel_rfl) (by kernel_rfl) (by kernel_rfl) (fun _ _ _ h => h) (by rfl) ?_ hHeld ?_
            rotate_left
            · (intro w hSw; (try dsimp only at hSw); go_simp; try with_reducible rfl)
            try simp only [Act.put, List.setIfInBounds_toArray, List.set_cons_zero, List.set_cons_succ]
            refine held_take 11 ?_ rfl (by kernel_rfl) (by kernel_rfl) (by kernel_rfl) (fun _ _ _ h => h) (by rfl) ?_ hHeld ?_
            rotate_left
            · (intro w hSw; (try dsimp only at hSw); go_simp; try with_reducible rfl)
            try simp only [Act.put, List.setIfInBounds_toArray, List.set_cons_zero, List.set_cons_succ]
            refine held_take 12 ?_ rfl (by kernel_rfl) (by kernel_rfl) (by kernel_rfl) (fun _ _ _ h => h) (by rfl) ?_ hHeld ?_
            rotate_left
            · (intro w hSw; (try dsimp only at hSw); go_simp; try with_reducible rfl)
            try simp only [Act.put, List.setIfInBounds_toArray, List.set_cons_zero, List.set_cons_succ]
            refine held_take 13 ?_ rfl (by kernel_rfl) (by kernel_rfl) (by kernel_rfl) (fun _ _ _ h => h) (by rfl) ?_ hHeld ?_
            rotate_left
            · (intro w hSw; (try dsimp only at hSw); go_simp; try with_reducible rfl)
            try simp only [Act.put, List.setIfInBounds_toArray, List.set_cons_zero, List.set_cons_succ]
            refine held_take 14 ?_ rfl (by kernel_rfl) (by kernel_rfl) (by kernel_rfl) (fun _ _ _ h => h) (by rfl) ?_ hHeld ?_
            rotate_left
            · (intro w hSw; (try dsimp only at hSw); go_simp; try with_reducible rfl)
            try simp only [Act.put, List.setIfInBounds_toArray, List.set_cons_zero, List.set_cons_succ]
            refine held_take 15 ?_ rfl (by kernel_rfl) (by kernel_rfl) (by kernel_rfl) (fun _ _ _ h => h) (by rfl) ?_ hHeld ?_
            rotate_left
            · (intro w hSw; (try dsimp only at hSw); go_simp; try with_reducible rfl)
            try simp only [Act.put, List.setIfInBounds_toArray, List.set_cons_zero, List.set_cons_succ]
            refine held_one 10 rfl (by kernel_rfl) (by rfl) (fun K hK => ?_)
            go_simp
            refine (lenL _ hT7.m).mono ?_
            rintro e w' ⟨rfl, rfl⟩
            refine hK.out _ _ ?_ (fun hHeld2 => ?_)
            · (try dsimp only); (first | exact ⟨r0, r1⟩)
            clear hK K hHeld
            have hHeld := hHeld2
            clear hHeld2
            try simp only [Act.put, List.setIfInBounds_toArray, List.set_cons_zero, List.set_cons_succ]
            refine held_take 16 ?_ rfl (by kernel_rfl) (by kernel_rfl) (by kernel_rfl) (fun _ _ _ h => h) (by rfl) ?_ hHeld ?_
            rotate_left
            · (intro w hSw; (try dsimp only at hSw); go_simp; try with_reducible rfl)
            try simp only [Act.put, List.setIfInBounds_toArray, List.set_cons_zero, List.set_cons_succ]
            refine held_take 17 ?_ rfl (by kernel_rfl) (by kernel_rfl) (by kernel_rfl) (fun _ _ _ h => h) (by rfl) ?_ hHeld ?_
            rotate_left
            · (intro w hSw; (try dsimp only at hSw); go_simp; try with_reducible rfl)
            try simp only [Act.put, List.setIfInBounds_toArray, List.set_cons_zero, List.set_cons_succ]
            refine held_take 18 ?_ rfl (by kernel_rfl) (by kernel_rfl) (by kernel_rfl) (fun _ _ _ h => h) (by rfl) ?_ hHeld ?_
            rotate_left
            · (intro w hSw; (try dsimp only at hSw); go_simp; try with_reducible rfl)
            try simp only [Act.put, List.setIfInBounds_toArray, List.set_cons_zero, List.set_cons_succ]
            refine held_take 19 ?_ rfl (by kernel_rfl) (by kernel_rfl) (by kernel_rfl) (fun _ _ _ h => h) (by rfl) ?_ hHeld ?_
            rotate_left
            · (intro w hSw; (try dsimp only at hSw); go_simp; try with_reducible rfl)
            try simp only [Act.put, List.setIfInBounds_toArray, List.set_cons_zero, List.set_cons_succ]
            refine held_take 21 ?_ rfl (by kernel_rfl) (by kernel_rfl) (by kernel_rfl) (fun _ _ _ h => h) (by rfl) ?_ hHeld ?_
            rotate_left
            · (intro w hSw; (try dsimp only at hSw); go_simp; try with_reducible rfl)
            try simp only [Act.put, List.setIfInBounds_toArray, List.set_cons_zero, List.set_cons_succ]
            refine held_take 22 ?_ rfl (by kernel_rfl) (by kernel_rfl) (by kernel_rfl) (fun _ _ _ h => h) (by rfl) ?_ hHeld ?_
            rotate_left
            · (intro w hSw; (try dsimp only at hSw); go_simp; try with_reducible rfl)
            try simp only [Act.put, List.setIfInBounds_toArray, List.set_cons_zero, List.set_cons_succ]
            refine held_take 23 ?_ rfl (by kernel_rfl) (by kernel_rfl) (by kernel_rfl) (fun _ _ _ h => h) (by rfl) ?_ hHeld ?_
            rotate_left
            · (intro w hSw; (try dsimp only at hSw); go_simp; try with_reducible rfl)
            try simp only [Act.put, List.setIfInBounds_toArray, List.set_cons_zero, List.set_cons_succ]
            refine held_take 24 ?_ rfl (by kernel_rfl) (by kernel_rfl) (by kernel_rfl) (fun _ _ _ h => h) (by rfl) ?_ hHeld ?_
            rotate_left
            · (intro w hSw; (try dsimp only at hSw); go_simp; try with_reducible rfl)
            try simp only [Act.put, List.setIfInBounds_toArray, List.set_cons_zero, List.set_cons_succ]
            refine held_one 20 rfl (by kernel_rfl) (by rfl) (fun K hK => ?_)
            go_simp
            refine (lostIsL _ hT7.m).mono ?_
            rintro e w' ⟨rfl, rfl⟩
            refine hK.out _ _ ?_ (fun hHeld2 => ?_)
            · (try dsimp only); (first | exact ⟨r0, r1⟩)
            clear hK K hHeld
            have hHeld := hHeld2
            clear hHeld2
            try simp only [Act.put, List.setIfInBounds_toArray, List.set_cons_zero, List.set_cons_succ]
            refine held_take 25 ?_ rfl (by kernel_rfl) (by kernel_rfl) (by kernel_rfl) (fun _ _ _ h => h) (by rfl) ?_ hHeld ?_
            rotate_left
            · (intro w hSw; (try dsimp only at hSw); go_simp; try with_reducible rfl)
            try simp only [Act.put, List.setIfInBounds_toArray, List.set_cons_zero, List.set_cons_succ]
            refine held_take 26 ?_ rfl (by kernel_rfl) (by kernel_rfl) (by kernel_rfl) (fun _ _ _ h => h) (by rfl) ?_ hHeld ?_
            rotate_left
            · (intro w hSw; (try dsimp only at hSw); go_simp; try with_reducible rfl)
            try simp only [Act.put, List.setIfInBounds_toArray, List.set_cons_zero, List.set_cons_succ]
            refine held_take 27 ?_ rfl (by kernel_rfl) (by kernel_rfl) (by kernel_rfl) (fun _ _ _ h => h) (by rfl) ?_ hHeld ?_
            rotate_left
            · (intro w hSw; (try dsimp only at hSw); go_simp; try with_reducible rfl)
            try simp only [Act.put, List.setIfInBounds_toArray, List.set_cons_zero, List.set_cons_succ]
            refine held_take 28 ?_ rfl (by kernel_rfl) (by kernel_rfl) (by kernel_rfl) (fun _ _ _ h => h) (by rfl) ?_ hHeld ?_
            rotate_left
            · (intro w hSw; (try dsimp only at hSw); go_simp; try with_reducible rfl)
            try simp only [Act.put, List.setIfInBounds_toArray, List.set_cons_zero, List.set_cons_succ]
            refine held_take 30 ?_ rfl (by kernel_rfl) (by kernel_rfl) (by kernel_rfl) (fun _ _ _ h => h) (by rfl) ?_ hHeld ?_
            rotate_left
            · (intro w hSw; (try dsimp only at hSw); go_simp; try with_reducible rfl)
            try simp only [Act.put, List.setIfInBounds_toArray, List.set_cons_zero, List.set_cons_succ]
            refine held_one 29 rfl (by kernel_rfl) (by rfl) (fun K hK => ?_)
            go_simp
            refine (lenL _ hT7.c).mono ?_
            rintro e w' ⟨rfl, rfl⟩
            refine hK.out _ _ ?_ (fun hHeld2 => ?_)
            · (try dsimp only); (first | exact ⟨r0, r1⟩)
            clear hK K hHeld
            have hHeld := hHeld2
            clear hHeld2
            try simp only [Act.put, List.setIfInBounds_toArray, List.set_cons_zero, List.set_cons_succ]
            refine held_take 31 ?_ rfl (by kernel_rfl) (by kernel_rfl) (by kernel_rfl) (fun _ _ _ h => h) (by rfl) ?_ hHeld ?_
            rotate_left
            · (intro w hSw; (try dsimp only at hSw); go_simp; try with_reducible rfl)
            try simp only [Act.put, List.setIfInBounds_toArray, List.set_cons_zero, List.set_cons_succ]
            refine held_take 32 ?_ rfl (by kernel_rfl) (by kernel_rfl) (by kernel_rfl) (fun _ _ _ h => h) (by rfl) ?_ hHeld ?_
            rotate_left
            · (intro w hSw; (try dsimp only at hSw); go_simp; try with_reducible rfl)
            try simp only [Act.put, List.setIfInBounds_toArray, List.set_cons_zero, List.set_cons_succ]
            refine wpAnyH_done (by kernel_rfl) ?_ _
            clear hHeld
            clear hq1 hq2 r0 r1
            go_wp2_with fail
            have HG := hid (And.intro hT7.fr (And.intro hT7.gf hT7.gr))
            go_loopw [15] (fun i wr => AllM w b rb (.slice A1 E.length k1) E F6 R6 AF i wr) (fun i _ => E.length - (intOf i).toNat)
            case atStart => unfold AllM; exact ⟨0, by omega, rfl, hT7.m, hT7.r, hl8, hT7.below⟩
            case round =>
              clear hT7 hl8
              unfold AllM at hrel
              obtain ⟨j, hj, rfl, hm, hr, hl, hB⟩ := hrel
              by_cases hlt : j < E.length
              · obtain ⟨p, hp⟩ : ∃ p, E[j]? = some p := ⟨E[j], List.getElem?_eq_getElem hlt⟩
                obtain ⟨g0, cap0, B0, d0, hv0, hc0, hc0m, x0, x1, xs0⟩ := hl.item hp
                obtain ⟨g1, cap1, B1, d1, y, hc1, hc1m, y0, y1, ys1⟩ := hr.item hp
                simp only [Value.slice.injEq, true_and] at hv0
                obtain ⟨rfl, rfl⟩ := hv0
                have hpl : p.2.length ≤ 60 := HE.out.2 p (List.mem_of_getElem? hp)
                have z0 : wr.drew.cell? ⟨g0, j * 2, none⟩ = some (.int .i64 p.1) := x0
                have z1 : wr.drew.cell? ⟨g0, j * 2 + 1, none⟩ = some (.slice B0 p.2.length d0) := x1
                have z2 : wr.drew.cell? ⟨g1, j * 2, none⟩ = some (.int .i64 p.1) := y0
                have z3 : wr.drew.cell? ⟨g1, j * 2 + 1, none⟩ = some (.slice B1 p.2.length d1) := y1
                have z4 : wr.drew.cell? ⟨rb, 0, none⟩ = some (.slice (some ⟨g1, 0, none⟩) E.length cap1) := y
                have hb : Below wr.heap.size wr wr.drew := (Below.refl _ _).drew
                have hs0 : Sl wr.drew B0 (p.2.map (Value.int .u8)) := It.here.below (x := ⟨0, B0, d0, p.2⟩) xs0 hb
                have hs1 : Sl wr.drew B1 (p.2.map (Value.int .u8)) := It.here.below (x := ⟨0, B1, d1, p.2⟩) ys1 hb
                have HL := hid (And.intro hm (And.intro hr (And.intro hl (And.intro hB (And.intro hpl (And.intro hs0 hs1))))))
                clear x0 x1 y y0 y1 xs0 ys1 hb hm hr hl hB hpl hs0 hs1 hp
                have hq2 : (p.1 != p.1) = false := by simp
                go_wp2_with fail
                refine wp_region_held_drew (S := fun w' => w'.cell? ⟨g0, j * 2, none⟩ = some (.int .i64 p.1) ∧ w'.cell? ⟨g0, j * 2 + 1, none⟩ = some (.slice B0 p.2.length d0) ∧ w'.cell? ⟨g1, j * 2, none⟩ = some (.int .i64 p.1) ∧ w'.cell? ⟨g1, j * 2 + 1, none⟩ = some (.slice B1 p.2.length d1) ∧ w'.cell? ⟨rb, 0, none⟩ = some (.slice (some ⟨g1, 0, none⟩) E.length cap1)) (by kernel_rfl) ?_ (fun hHeld => ?_)
                · (try dsimp only); (first | exact ⟨z0, z1, z2, z3, z4⟩)
                refine held_take 0 ?_ rfl (by kernel_rfl) (by kernel_rfl) (by kernel_rfl) (fun _ _ _ h => h) (by rfl) ?_ hHeld ?_
                rotate_left
                · (intro w hSw; (try dsimp only at hSw); go_simp; try with_reducible rfl)
                try simp only [Act.put, List.setIfInBounds_toArray, List.set_cons_zero, List.set_cons_succ]
                refine held_take 1 ?_ rfl (by kernel_rfl) (by kernel_rfl) (by kernel_rfl) (fun _ _ _ h => h) (by rfl) ?_ hHeld ?_
                rotate_left
                · (intro w hSw; (try dsimp only at hSw); go_simp; try with_reducible rfl)
                try simp only [Act.put, List.setIfInBounds_toArray, List.set_cons_zero, List.set_cons_succ]
                refine held_take 2 ?_ rfl (by kernel_rfl) (by kernel_rfl) (by kernel_rfl) (fun _ _ _ h => h) (by rfl) ?_ hHeld ?_
                rotate_left
                · (intro w hSw; (try dsimp only at hSw); go_simp; try with_reducible rfl)
                try simp only [Act.put, List.setIfInBounds_toArray, List.set_cons_zero, List.set_cons_succ]
                refine held_take 3 ?_ rfl (by kernel_rfl) (by kernel_rfl) (by kernel_rfl) (fun _ _ _ h => h) (by rfl) ?_ hHeld ?_
                rotate_left
                · (intro w hSw; (try dsimp only at hSw); go_simp; try with_reducible rfl)
                try simp only [Act.put, List.setIfInBounds_toArray, List.set_cons_zero, List.set_cons_succ]
                refine held_take 4 ?_ rfl (by kernel_rfl) (by kernel_rfl) (by kernel_rfl) (fun _ _ _ h => h) (by rfl) ?_ hHeld ?_
                rotate_left
                · (intro w hSw; (try dsimp only at hSw); go_simp; try with_reducible rfl)
                try simp only [Act.put, List.setIfInBounds_toArray, List.set_cons_zero, List.set_cons_succ]
                refine held_take 5 ?_ rfl (by kernel_rfl) (by kernel_rfl) (by kernel_rfl) (fun _ _ _ h => h) (by rfl) ?_ hHeld ?_
                rotate_left
                · (intro w hSw; (try dsimp only at hSw); go_simp; try with_reducible rfl)
                try simp only [Act.put, List.setIfInBounds_toArray, List.set_cons_zero, List.set_cons_succ]
                refine held_take 6 ?_ rfl (by kernel_rfl) (by kernel_rfl) (by kernel_rfl) (fun _ _ _ h => h) (by rfl) ?_ hHeld ?_
                rotate_left
                · (intro w hSw; (try dsimp only at hSw); go_simp; try with_reducible rfl)
                try simp only [Act.put, List.setIfInBounds_toArray, List.set_cons_zero, List.set_cons_succ]
                refine held_take 7 ?_ rfl (by kernel_rfl) (by kernel_rfl) (by kernel_rfl) (fun _ _ _ h => h) (by rfl) ?_ hHeld ?_
                rotate_left
                · (intro w hSw; (try dsimp only at hSw); go_simp; try with_reducible rfl)
                try simp only [Act.put, List.setIfInBounds_toArray, List.set_cons_zero, List.set_cons_succ]
                refine held_take 8 ?_ rfl (by kernel_rfl) (by kernel_rfl) (by kernel_rfl) (fun _ _ _ h => h) (by rfl) ?_ hHeld ?_
                rotate_left
                · (intro w hSw; (try dsimp only at hSw); go_simp; try with_reducible rfl)
                try simp only [Act.put, List.setIfInBounds_toArray, List.set_cons_zero, List.set_cons_succ]
                refine held_take 9 ?_ rfl (by kernel_rfl) (by kernel_rfl) (by kernel_rfl) (fun _ _ _ h => h) (by rfl) ?_ hHeld ?_
                rotate_left
                · (intro w hSw; (try dsimp only at hSw); go_simp; try with_reducible rfl)
                try simp only [Act.put, List.setIfInBounds_toArray, List.set_cons_zero, List.set_cons_succ]
                refine held_take 10 ?_ rfl (by kernel_rfl) (by kernel_rfl) (by kernel_rfl) (fun _ _ _ h => h) (by rfl) ?_ hHeld ?_
                rotate_left
                · (intro w hSw; (try dsimp only at hSw); go_simp; try with_reducible rfl)
                try simp only [Act.put, List.setIfInBounds_toArray, List.set_cons_zero, List.set_cons_succ]
                refine held_take 11 ?_ rfl (by kernel_rfl) (by kernel_rfl) (by kernel_rfl) (fun _ _ _ h => h) (by rfl) ?_ hHeld ?_
                rotate_left
                · (intro w hSw; (try dsimp only at hSw); go_simp; try with_reducible rfl)
                try simp only [Act.put, List.setIfInBounds_toArray, List.set_cons_zero, List.set_cons_succ]
                refine held_take 12 ?_ rfl (by kernel_rfl) (by kernel_rfl) (by kernel_rfl) (fun _ _ _ h => h) (by rfl) ?_ hHeld ?_
                rotate_left
                · (intro w hSw; (try dsimp only at hSw); go_simp; try with_reducible rfl)
                try simp only [Act.put, List.setIfInBounds_toArray, List.set_cons_zero, List.set_cons_succ]
                refine held_take 13 ?_ rfl (by kernel_rfl) (by kernel_rfl) (by kernel_rfl) (fun _ _ _ h => h) (by rfl) ?_ hHeld ?_
                rotate_left
                · (intro w hSw; (try dsimp only at hSw); go_simp; try with_reducible rfl)
                try simp only [Act.put, List.setIfInBounds_toArray, List.set_cons_zero, List.set_cons_succ]
                refine held_take 14 ?_ rfl (by kernel_rfl) (by kernel_rfl) (by kernel_rfl) (fun _ _ _ h => h) (by rfl) ?_ hHeld ?_
                rotate_left
                · (intro w hSw; (try dsimp only at hSw); go_simp; try with_reducible rfl)
                try simp only [Act.put, List.setIfInBounds_toArray, List.set_cons_zero, List.set_cons_succ]
                refine held_take 15 ?_ rfl (by kernel_rfl) (by kernel_rfl) (by kernel_rfl) (fun _ _ _ h => h) (by rfl) ?_ hHeld ?_
                rotate_left
                · (intro w hSw; (try dsimp only at hSw); go_simp; try with_reducible rfl)
                try simp only [Act.put, List.setIfInBounds_toArray, List.set_cons_zero, List.set_cons_succ]
                refine held_take 16 ?_ rfl (by kernel_rfl) (by kernel_rfl) (by kernel_rfl) (fun _ _ _ h => h) (by rfl) ?_ hHeld ?_
                rotate_left
                · (intro w hSw; (try dsimp only at hSw); go_simp; try with_reducible rfl)
                try simp only [Act.put, List.setIfInBounds_toArray, List.set_cons_zero, List.set_cons_succ]
                refine held_take 17 ?_ rfl (by kernel_rfl) (by kernel_rfl) (by kernel_rfl) (fun _ _ _ h => h) (by rfl) ?_ hHeld ?_
                rotate_left
                · (intro w hSw; (try dsimp only at hSw); go_simp; try with_reducible rfl)
                try simp only [Act.put, List.setIfInBounds_toArray, List.set_cons_zero, List.set_cons_succ]
                refine held_take 18 ?_ rfl (by kernel_rfl) (by kernel_rfl) (by kernel_rfl) (fun _ _ _ h => h) (by rfl) ?_ hHeld ?_
                rotate_left
                · (intro w hSw; (try dsimp only at hSw); go_simp; try with_reducible rfl)
                try simp only [Act.put, List.setIfInBounds_toArray, List.set_cons_zero, List.set_cons_succ]
                refine held_take 19 ?_ rfl (by kernel_rfl) (by kernel_rfl) (by kernel_rfl) (fun _ _ _ h => h) (by rfl) ?_ hHeld ?_
                rotate_left
                · (intro w hSw; (try dsimp only at hSw); go_simp; try with_reducible rfl)
                try simp only [Act.put, List.setIfInBounds_toArray, List.set_cons_zero, List.set_cons_succ]
                refine held_take 20 ?_ rfl (by kernel_rfl) (by kernel_rfl) (by kernel_rfl) (fun _ _ _ h => h) (by rfl) ?_ hHeld ?_
                rotate_left
                · (intro w hSw; (try dsimp only at hSw); go_simp; try with_reducible rfl)
                try simp only [Act.put, List.setIfInBounds_toArray, List.set_cons_zero, List.set_cons_succ]
                refine held_take 21 ?_ rfl (by kernel_rfl) (by kernel_rfl) (by kernel_rfl) (fun _ _ _ h => h) (by rfl) ?_ hHeld ?_
                rotate_left
                · (intro w hSw; (try dsimp only at hSw); go_simp; try with_reducible rfl)
                try simp only [Act.put, List.setIfInBounds_toArray, List.set_cons_zero, List.set_cons_succ]
                refine held_take 22 ?_ rfl (by kernel_rfl) (by kernel_rfl) (by kernel_rfl) (fun _ _ _ h => h) (by rfl) ?_ hHeld ?_
                rotate_left
                · (intro w hSw; (try dsimp only at hSw); go_simp; try with_reducible rfl)
                try simp only [Act.put, List.setIfInBounds_toArray, List.set_cons_zero, List.set_cons_succ]
                refine held_take 23 ?_ rfl (by kernel_rfl) (by kernel_rfl) (by kernel_rfl) (fun _ _ _ h => h) (by rfl) ?_ hHeld ?_
                rotate_left
                · (intro w hSw; (try dsimp only at hSw); go_simp; try with_reducible rfl)
                try simp only [Act.put, List.setIfInBounds_toArray, List.set_cons_zero, List.set_cons_succ]
                refine held_take 24 ?_ rfl (by kernel_rfl) (by kernel_rfl) (by kernel_rfl) (fun _ _ _ h => h) (by rfl) ?_ hHeld ?_
                rotate_left
                · (intro w hSw; (try dsimp only at hSw); go_simp; try with_reducible rfl)
                try simp only [Act.put, List.setIfInBounds_toArray, List.set_cons_zero, List.set_cons_succ]
                refine held_take 25 ?_ rfl (by kernel_rfl) (by kernel_rfl) (by kernel_rfl) (fun _ _ _ h => h) (by rfl) ?_ hHeld ?_
                rotate_left
                · (intro w hSw; (try dsimp only at hSw); go_simp; try with_reducible rfl)
                try simp only [Act.put, List.setIfInBounds_toArray, List.set_cons_zero, List.set_cons_succ]
                refine held_take 26 ?_ rfl (by kernel_rfl) (by kernel_rfl) (by kernel_rfl) (fun _ _ _ h => h) (by rfl) ?_ hHeld ?_
                rotate_left
                · (intro w hSw; (try dsimp only at hSw); go_simp; try with_reducible rfl)
                try simp only [Act.put, List.setIfInBounds_toArray, List.set_cons_zero, List.set_cons_succ]
                refine held_take 27 ?_ rfl (by kernel_rfl) (by kernel_rfl) (by kernel_rfl) (fun _ _ _ h => h) (by rfl) ?_ hHeld ?_
                rotate_left
                · (intro w hSw; (try dsimp only at hSw); go_simp; try with_reducible rfl)
                try simp only [Act.put, List.setIfInBounds_toArray, List.set_cons_zero, List.set_cons_succ]
                refine held_one 28 rfl (by kernel_rfl) (by rfl) (fun K hK => ?_)
                go_simp
                refine (sameBytes_same B0 B1 d0 d1 p.2 _ HL.out.2.2.2.2.2.1 HL.out.2.2.2.2.2.2 (by have := HL.out.2.2.2.2.1; omega)).mono ?_
                rintro e w' ⟨rfl, nq, rfl⟩
                have hm7 := drewN_mail HL.out.1 (1 + nq)
                have hr7 := drewN_rmail HL.out.2.1 (1 + nq)
                have hl7 := drewN_list HL.out.2.2.1 (1 + nq)
                have hB7 := below_drewN HL.out.2.2.2.1 (1 + nq)
                clear HL
                refine hK.out _ _ ?_ (fun hHeld2 => ?_)
                · (try dsimp only); (first | exact ⟨z0, z1, z2, z3, z4⟩)
                clear hK K hHeld
                have hHeld := hHeld2
                clear hHeld2
                try simp only [Act.put, List.setIfInBounds_toArray, List.set_cons_zero, List.set_cons_succ]
                refine held_take 29 ?_ rfl (by kernel_rfl) (by kernel_rfl) (by kernel_rfl) (fun _ _ _ h => h) (by rfl) ?_ hHeld ?_
                rotate_left
                · (intro w hSw; (try dsimp only at hSw); go_simp; try with_reducible rfl)
                try simp only [Act.put, List.setIfInBounds_toArray, List.set_cons_zero, List.set_cons_succ]
                refine held_take 30 ?_ rfl (by kernel_rfl) (by kernel_rfl) (by kernel_rfl) (fun _ _ _ h => h) (by rfl) ?_ hHeld ?_
                rotate_left
                · (intro w hSw; (try dsimp only at hSw); go_simp; try with_reducible rfl)
                try simp only [Act.put, List.setIfInBounds_toArray, List.set_cons_zero, List.set_cons_succ]
                refine wpAnyH_done (by kernel_rfl) ?_ _
                clear hHeld
                go_wp2_with fail
                go_roundw
                case rel => unfold AllM; exact ⟨j + 1, by omega, by go_num, hm7, hr7, hl7, hB7⟩
                case measure => simp [intOf]; omega
              · clear hl
                go_wp2_with fail
                go_roundw
                case rel => unfold PlaysRel; exact ⟨k + 1, by omega, by go_num, F6, R6, E, hm, hr, HG.out.1, HG.out.2.1, HG.out.2.2, hB, HE.out⟩
                case measure => simp [intOf]; omega
        · have hb60' : 60 < (bs.length : Int) := by omega
          go_wp2_with fail
          go_ret
          exact ⟨rfl, hB4⟩
      · obtain rfl : ds.length = k := by omega
        go_wp2_with fail
        go_ret
        exact ⟨rfl, hB⟩
  · have hn' : 60 < (ds.length : Int) := by omega
    go_enter Try.func6, Try.ntmps6
    go_wp2_with fail
    refine (first_any _).mono ?_
    rintro e w1 ⟨rfl, hB1⟩
    go_wp2_with fail
    go_ret
    exact ⟨rfl, hB1⟩
end Go.Proofs.Ytnhfnklbeifbhaa
