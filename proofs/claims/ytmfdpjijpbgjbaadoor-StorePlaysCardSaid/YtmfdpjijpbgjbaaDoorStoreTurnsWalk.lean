/- StoreTurns: the walk. -/
import Derived.Test.YtmfdpjijpbgjbaaDoorStoreFallsWalk
namespace Go.Proofs.YtmfdpjijpbgjbaaDoor
open Go.RowKit
set_option linter.unusedSimpArgs false

theorem kept_bs (c : Cl) (z : Int) (r : Int × Int) : (c.kept z r).bs = setL c.bs (saveL (saveS z) r) := rfl
def recI (lives : Bool) (k : Nat) : Int × Int := if lives then (0, (k : Int)) else ((k : Int), 0)
theorem recI_less (lives : Bool) (k : Nat) (hk : k < 1000) : badE (recI lives k) (recI lives (k + 1)) = 0 := by
  unfold badE recI
  cases lives
  · rw [if_neg (by simp; omega), if_neg (by simp; omega)]
  · rw [if_neg (by simp; omega), if_neg (by simp; omega)]
/-- The marks behind so many saves. -/
def Marks (c : Cl) (z : Int) (k : Nat) : Prop :=
  (k = 0 → z = -1 ∧ c.bs.getD 0 0 = 0 ∧ c.bs.getD 13 0 = 0) ∧ (k = 1 → z = 0 ∧ c.bs.getD 0 0 = 1 ∧ c.bs.getD 13 0 = 0) ∧ (2 ≤ k → c.bs.getD 0 0 = 1 ∧ c.bs.getD 13 0 = 1)
theorem marks_next {c : Cl} {z : Int} {k : Nat} (r : Int × Int) (h : Marks c z k) (hl : 26 ≤ c.bs.length) : Marks (c.kept z r) (saveS z) (k + 1) := by
  obtain ⟨h0, h1, h2⟩ := h
  have hlen : saveS z * 13 + 13 ≤ c.bs.length := by rcases saveS_le z with e | e <;> rw [e] <;> omega
  have f0 := full_at (saveS z) r hlen 0
  have f13 := full_at (saveS z) r hlen 13
  have e0 : (c.kept z r).bs.getD 0 0 = if saveS z = 0 then 1 else c.bs.getD 0 0 := by
    rw [kept_bs, f0]
    rcases saveS_le z with e | e <;> rw [e] <;> simp
  have e13 : (c.kept z r).bs.getD 13 0 = if saveS z = 1 then 1 else c.bs.getD 13 0 := by
    rw [kept_bs, f13]
    rcases saveS_le z with e | e <;> rw [e] <;> simp
  rw [Marks, e0, e13]
  refine ⟨fun h => by omega, fun h => ?_, fun h => ?_⟩
  · obtain ⟨z0, m0, m1⟩ := h0 (by omega)
    subst z0
    rw [show saveS (-1) = 0 from rfl, m1]
    simp
  · by_cases hk : k = 1
    · obtain ⟨z0, m0, m1⟩ := h1 hk
      subst z0
      rw [show saveS 0 = 1 from rfl, m0]
      simp
    · obtain ⟨m0, m1⟩ := h2 (by omega)
      rw [m0, m1]
      simp
theorem kept_open {c : Cl} {a : (Int × Int) × Int} {r : Int × Int} (hl : 26 ≤ c.bs.length) (ho : openR c.bs = a) (h : badE a.1 r = 0) : openR (c.kept a.2 r).bs = (r, (saveS a.2 : Int)) := by
  subst ho
  rw [kept_bs]
  exact open_full hl h
def TurnRel (W : World) (lives : Bool) (b g s N : Nat) (i : Value) (wr : World) : Prop :=
  ∃ k : Nat, k ≤ N ∧ i = .int .i64 ((k : Int) + 1) ∧ ∃ c a, St W wr b g s c a ∧ c.fuse = 0 ∧ c.bs.length = 26 ∧ openR c.bs = a ∧ c.writes = 14 * (k : Int) ∧ a.1 = recI lives k ∧ Marks c a.2 k
attribute [irreducible] TurnRel
set_option maxRecDepth 100000 in
set_option maxHeartbeats 4000000 in
theorem storeTurns_walk {ad : Int → Addr} (a0 : Int) (lives : Bool) (w : World) (hE : Errs4 ad w) :
    Calls Tryd.prog 9 #[.int .i64 a0, .bool lives] w (SaysTrue w) := by
  obtain ⟨m, hm, hm1⟩ := mod_nat a0 30 (by omega)
  have hn : ∀ w, _ := fun w => number_any a0 30 (by omega) (by omega) w
  rw [hm] at hn
  clear hm
  go_enter Tryd.func9, Tryd.ntmps9
  go_wp2_with fail
  refine (first3_any w hE).mono ?_
  rintro e w1 ⟨rfl, hB1⟩
  go_wp2_with fail
  refine (hn _).mono ?_
  rintro e w' ⟨rfl, rfl⟩
  go_wp2_with fail
  refine (opened_any w1 hE hB1).mono ?_
  rintro e w2 ⟨s, b, g, rfl, hS2, _⟩
  clear hB1 hn
  go_wp2_with fail
  go_loopw [8] (fun i wr => TurnRel w lives b g s (m + 2) i wr) (fun i _ => m + 3 - (intOf i).toNat)
  case atStart => unfold TurnRel; exact ⟨0, by omega, rfl, Cl.new 26, ((0, 0), -1), hS2, rfl, by simp [Cl.new], open_new 26, rfl, by unfold recI; cases lives <;> rfl, ⟨fun _ => ⟨rfl, rfl, rfl⟩, fun h => by omega, fun h => by omega⟩⟩
  case round =>
    clear hS2
    unfold TurnRel at hrel
    obtain ⟨k, hk, rfl, c, a, hS, hf, hlen, hop, hwr, har, hmk⟩ := hrel
    by_cases hlt : k < m + 2
    · have hlt' : (k : Int) + 1 ≤ (m : Int) + 2 := by omega
      have hbd : badE a.1 (recI lives (k + 1)) = 0 := by rw [har]; exact recI_less lives k (by omega)
      have HM := hid (And.intro hmk (And.intro hop (And.intro har (And.intro hlen hbd))))
      have hltb := hS.lt
      clear hmk hop har
      go_upto_if 35 with (fail)
      have hbA : Below wr.heap.size wr (wr.alloc (.cells #[.int .i64 (k + 1), .int .i64 0] 59)) := (Below.refl _ _).alloc (Nat.le_refl _) _
      have hA : Blk (wr.alloc (.cells #[.int .i64 (k + 1), .int .i64 0] 59)) wr.heap.size [.int .i64 (k + 1), .int .i64 0] 59 := Blk.new wr [.int .i64 (k + 1), .int .i64 0] 59
      generalize wr.alloc (.cells #[.int .i64 (k + 1), .int .i64 0] 59) = wa at *
      generalize ht : wr.heap.size = t at *
      go_cut [9] (fun v wx => v = .pointer (some ⟨t, 0, none⟩) ∧ Blk wx t [.int .i64 (recI lives (k + 1)).1, .int .i64 (recI lives (k + 1)).2] 59 ∧ Below t wr wx)
      case first =>
        cases lives
        · go_wp2_with fail
          go_meet
          exact ⟨rfl, by simpa [recI] using hA, hbA⟩
        · have c0 : wa.cell? ⟨t, 0, none⟩ = some (.int .i64 (k + 1)) := hA.cell 0
          have c1 : wa.cell? ⟨t, 1, none⟩ = some (.int .i64 0) := hA.cell 1
          have hff : ∀ o, wa.frozen? ⟨t, o, none⟩ = false := hA.frozen
          have hZ := hid (And.intro ((hA.set 0 (.int .i64 0)).set 1 (.int .i64 (k + 1))) ((hbA.setCell (p := ⟨t, 0, none⟩) (Nat.le_refl _) (.int .i64 0)).setCell (p := ⟨t, 1, none⟩) (Nat.le_refl _) (.int .i64 (k + 1))))
          clear hA hbA
          go_wp2_with fail
          go_meet
          exact ⟨rfl, by simpa [recI] using hZ.out.1, hZ.out.2⟩
      case rest =>
        obtain ⟨rfl, hT, hbx⟩ := hcut
        have hSx := hS.on (by rw [ht]; exact hbx)
        have HM2 := hid (And.intro (marks_next (recI lives (k + 1)) HM.out.1 hS.len.1) (kept_open hS.len.1 HM.out.2.1 HM.out.2.2.2.2))
        have HR : Hid (∃ R, R = recI lives (k + 1)) := ⟨_, rfl⟩
        generalize hrr : recI lives (k + 1) = r at *
        obtain ⟨p, q⟩ := r
        have t0 : World.cell? _ ⟨t, 0, none⟩ = some (.int .i64 p) := hT.cell 0
        have t1 : World.cell? _ ⟨t, 1, none⟩ = some (.int .i64 q) := hT.cell 1
        have hv := st_save hE hSx hf (p, q) hbd (by omega)
        have hk26 : (c.kept a.2 (p, q)).bs.length = 26 := by rw [kept_len]; exact hlen
        have hkf : (c.kept a.2 (p, q)).fuse = 0 := rfl
        have hkw : (c.kept a.2 (p, q)).writes = 14 * ((k : Int) + 1) := by simp only [Cl.kept]; omega
        generalize c.kept a.2 (p, q) = c' at *
        generalize (saveS a.2 : Int) = z' at *
        have HRR := hid hrr
        clear hS hbx hrr hbd
        go_wp2_with fail
        refine hv.mono ?_
        rintro e w3 ⟨rfl, hS3, he3⟩
        rw [errV_zero]
        have hltx := hSx.lt
        have hT3 := Eff.of3 hSx he3 hT (by omega)
        clear hv hSx hT he3 t0 t1 hf hlen hwr HM
        have HC := hid (And.intro hk26 (And.intro hkf hkw))
        have g0 : ∀ w', St w w' b g s c' ((p, q), z') → Calls Tryd.prog 18 #[.pointer (some ⟨b, 0, none⟩), .int .i64 0] w' fun e w'' => e = .returned (.tuple #[.int .u8 1, .nilIface]) ∧ ∃ n, w'' = w'.drewN n := fun w' h => by
          have hg := get_any (((0 : Nat) : Int)) w' (hE.below h.below) h.cell
          rw [(get_up h.up (by rw [HC.out.1]; omega)).1, (get_up h.up (by rw [HC.out.1]; omega)).2, errV_zero] at hg
          have h1 : c'.bs.getD 0 0 = 1 := by
            by_cases hk0 : k = 0
            · exact (HM2.out.1.2.1 (by omega)).2.1
            · exact (HM2.out.1.2.2 (by omega)).1
          rw [h1] at hg
          exact hg
        have g13 : ∀ w', St w w' b g s c' ((p, q), z') → Calls Tryd.prog 18 #[.pointer (some ⟨b, 0, none⟩), .int .i64 13] w' fun e w'' => e = .returned (.tuple #[.int .u8 (if k = 0 then 0 else 1), .nilIface]) ∧ ∃ n, w'' = w'.drewN n := fun w' h => by
          have hg := get_any (((13 : Nat) : Int)) w' (hE.below h.below) h.cell
          rw [(get_up h.up (by rw [HC.out.1]; omega)).1, (get_up h.up (by rw [HC.out.1]; omega)).2, errV_zero] at hg
          have h1 : c'.bs.getD 13 0 = if k = 0 then 0 else 1 := by
            by_cases hk0 : k = 0
            · rw [if_pos hk0]; exact (HM2.out.1.2.1 (by omega)).2.2
            · rw [if_neg hk0]; exact (HM2.out.1.2.2 (by omega)).2
          rw [h1] at hg
          exact hg
        clear hk26 hkf hkw
        go_wp2_with fail
        refine (g0 _ hS3).mono ?_
        rintro e w' ⟨rfl, q1, rfl⟩
        have hb4 := below_drewN (Below.refl w3.heap.size w3) q1
        have hS4 := hS3.on hb4
        have hT4 := (Eff.of_below (S := fun _ => False) hb4).blk hT3 (fun h => h)
        clear hS3 hT3 hb4
        generalize w3.drewN q1 = w4 at *
        go_wp2_with fail
        refine (g13 _ hS4).mono ?_
        rintro e w' ⟨rfl, q2, rfl⟩
        have hb5 := below_drewN (Below.refl w4.heap.size w4) q2
        have hS5 := hS4.on hb5
        have hT5 := (Eff.of_below (S := fun _ => False) hb5).blk hT4 (fun h => h)
        clear hS4 hT4 hb5 g0 g13
        generalize w4.drewN q2 = w5 at *
        have hop := st_open hE hS5
        have HK := hid (show k ≤ m + 2 from hk)
        by_cases hk0 : k = 0
        all_goals
          first
            | (rw [if_pos hk0]; have hki : ((k : Int) + 1 == 1) = true := by simp; omega
               have hki2 : ¬ 1 < (k : Int) + 1 := by omega)
            | (rw [if_neg hk0]; have hki : ((k : Int) + 1 == 1) = false := by simp; omega
               have hki2 : 1 < (k : Int) + 1 := by omega)
          clear hk0
          go_wp2_with fail
          refine hop.mono ?_
          rintro e w6 ⟨t2, rfl, hS6, hS6b, hb6, hlt6⟩
          have hT6 := (Eff.of_below (S := fun _ => False) hb6).blk hT5 (fun h => h)
          rw [HM2.out.2] at hS6
          clear hop hS5 hT5 hb6
          go_wp2_with fail
          have hS7 : St w (_root_.Go.World.drew w6) b g t2 c' ((p, q), z') := hS6.on ((Below.refl _ _).drew)
          have hS7b : St w (_root_.Go.World.drew w6) b g s c' ((p, q), z') := hS6b.on ((Below.refl _ _).drew)
          have y0 : (_root_.Go.World.drew w6).cell? ⟨t, 0, none⟩ = some (.int .i64 p) := hT6.cell 0
          have y1 : (_root_.Go.World.drew w6).cell? ⟨t, 1, none⟩ = some (.int .i64 q) := hT6.cell 1
          have ht7 : t < (_root_.Go.World.drew w6).heap.size := hT6.lt
          clear hS6 hS6b
          have hwrp : IntKind.i64.wrap (14 * ((k : Int) + 1)) = 14 * ((k : Int) + 1) := by rw [IntKind.wrap_i64]; omega
          refine wp_region_held_drew (S := fun w' => w'.cell? ⟨t, 0, none⟩ = some (.int .i64 p) ∧ w'.cell? ⟨t, 1, none⟩ = some (.int .i64 q)) (by kernel_rfl) ?_ (fun hHeld => ?_)
          · (try dsimp only); (first | exact ⟨y0, y1⟩ | exact ⟨z0, z1⟩ | exact ⟨x0, x1⟩)
          refine held_take 0 ?_ rfl (by kernel_rfl) (by kernel_rfl) (by kernel_rfl) (fun _ _ _ h => h) (by rfl) ?_ hHeld ?_
          rotate_left
          · (intro w hSw; (try dsimp only at hSw); go_simp; try with_reducible rfl)
          try simp only [Act.put, List.setIfInBounds_toArray, List.set_cons_zero, List.set_cons_succ]
          refine held_take 1 ?_ rfl (by kernel_rfl) (by kernel_rfl) (by kernel_rfl) (fun _ _ _ h => h) (by rfl) ?_ hHeld ?_
          rotate_left
          · (intro w hSw; (try dsimp only at hSw); go_simp; try with_reducible rfl)
          try simp only [Act.put, List.setIfInBounds_toArray, List.set_cons_zero, List.set_cons_succ]
          refine held_take 2 ?_ rfl (by kernel_rfl) (by kernel_rfl) (by kernel_rfl) (fun _ _ _ h => h) (by rfl) ?_ hHeld ?_
          rotate_left
          · (intro w hSw; (try dsimp only at hSw); go_simp; try with_reducible rfl)
          try simp only [Act.put, List.setIfInBounds_toArray, List.set_cons_zero, List.set_cons_succ]
          refine held_take 3 ?_ rfl (by kernel_rfl) (by kernel_rfl) (by kernel_rfl) (fun _ _ _ h => h) (by rfl) ?_ hHeld ?_
          rotate_left
          · (intro w hSw; (try dsimp only at hSw); go_simp; try with_reducible rfl)
          try simp only [Act.put, List.setIfInBounds_toArray, List.set_cons_zero, List.set_cons_succ]
          refine held_take 4 ?_ rfl (by kernel_rfl) (by kernel_rfl) (by kernel_rfl) (fun _ _ _ h => h) (by rfl) ?_ hHeld ?_
          rotate_left
          · (intro w hSw; (try dsimp only at hSw); go_simp; try with_reducible rfl)
          try simp only [Act.put, List.setIfInBounds_toArray, List.set_cons_zero, List.set_cons_succ]
          refine held_take 5 ?_ rfl (by kernel_rfl) (by kernel_rfl) (by kernel_rfl) (fun _ _ _ h => h) (by rfl) ?_ hHeld ?_
          rotate_left
          · (intro w hSw; (try dsimp only at hSw); go_simp; try with_reducible rfl)
          try simp only [Act.put, List.setIfInBounds_toArray, List.set_cons_zero, List.set_cons_succ]
          refine held_take 6 ?_ rfl (by kernel_rfl) (by kernel_rfl) (by kernel_rfl) (fun _ _ _ h => h) (by rfl) ?_ hHeld ?_
          rotate_left
          · (intro w hSw; (try dsimp only at hSw); go_simp; try with_reducible rfl)
          try simp only [Act.put, List.setIfInBounds_toArray, List.set_cons_zero, List.set_cons_succ]
          refine held_take 7 ?_ rfl (by kernel_rfl) (by kernel_rfl) (by kernel_rfl) (fun _ _ _ h => h) (by rfl) ?_ hHeld ?_
          rotate_left
          · (intro w hSw; (try dsimp only at hSw); go_simp; try with_reducible rfl)
          try simp only [Act.put, List.setIfInBounds_toArray, List.set_cons_zero, List.set_cons_succ]
          refine held_take 9 ?_ rfl (by kernel_rfl) (by kernel_rfl) (by kernel_rfl) (fun _ _ _ h => h) (by rfl) ?_ hHeld ?_
          rotate_left
          · (intro w hSw; (try dsimp only at hSw); go_simp; try with_reducible rfl)
          try simp only [Act.put, List.setIfInBounds_toArray, List.set_cons_zero, List.set_cons_succ]
          refine held_one 8 rfl (by kernel_rfl) (by rfl) (fun K hK => ?_)
          go_simp
          refine (record_any _ hS7.store).mono ?_
          rintro e w8 ⟨rfl, hb8⟩
          have hS8 := hS7b.on hb8
          have z0 := (hb8.cell (p := ⟨t, 0, none⟩) ht7).trans y0
          have z1 := (hb8.cell (p := ⟨t, 1, none⟩) ht7).trans y1
          have ht8 : t < w8.heap.size := Nat.lt_of_lt_of_le ht7 hb8.size
          have hsm := sameR_any (p, q) (p, q) w8
          rw [show decide ((p, q) = (p, q)) = true from by simp] at hsm
          refine hK.out _ _ ?_ (fun hHeld2 => ?_)
          · (try dsimp only); (first | exact ⟨y0, y1⟩ | exact ⟨z0, z1⟩ | exact ⟨x0, x1⟩)
          clear hK K hHeld
          have hHeld := hHeld2
          clear hHeld2
          try simp only [Act.put, List.setIfInBounds_toArray, List.set_cons_zero, List.set_cons_succ]
          refine held_one 10 rfl (by kernel_rfl) (by rfl) (fun K hK => ?_)
          go_simp
          refine hsm.mono ?_
          rintro e w9 ⟨rfl, hb9⟩
          have x0 := (hb9.cell (p := ⟨t, 0, none⟩) ht8).trans z0
          have x1 := (hb9.cell (p := ⟨t, 1, none⟩) ht8).trans z1
          have hS9 := hS8.on hb9
          have hwr := writes_any w9 hS9.cell
          rw [HC.out.2.2] at hwr
          refine hK.out _ _ ?_ (fun hHeld2 => ?_)
          · (try dsimp only); (first | exact ⟨y0, y1⟩ | exact ⟨z0, z1⟩ | exact ⟨x0, x1⟩)
          clear hK K hHeld
          have hHeld := hHeld2
          clear hHeld2
          try simp only [Act.put, List.setIfInBounds_toArray, List.set_cons_zero, List.set_cons_succ]
          refine held_take 11 ?_ rfl (by kernel_rfl) (by kernel_rfl) (by kernel_rfl) (fun _ _ _ h => h) (by rfl) ?_ hHeld ?_
          rotate_left
          · (intro w hSw; (try dsimp only at hSw); go_simp; try with_reducible rfl)
          try simp only [Act.put, List.setIfInBounds_toArray, List.set_cons_zero, List.set_cons_succ]
          refine held_take 12 ?_ rfl (by kernel_rfl) (by kernel_rfl) (by kernel_rfl) (fun _ _ _ h => h) (by rfl) ?_ hHeld ?_
          rotate_left
          · (intro w hSw; (try dsimp only at hSw); go_simp; try with_reducible rfl)
          try simp only [Act.put, List.setIfInBounds_toArray, List.set_cons_zero, List.set_cons_succ]
          refine held_take 13 ?_ rfl (by kernel_rfl) (by kernel_rfl) (by kernel_rfl) (fun _ _ _ h => h) (by rfl) ?_ hHeld ?_
          rotate_left
          · (intro w hSw; (try dsimp only at hSw); go_simp; try with_reducible rfl)
          try simp only [Act.put, List.setIfInBounds_toArray, List.set_cons_zero, List.set_cons_succ]
          refine held_take 14 ?_ rfl (by kernel_rfl) (by kernel_rfl) (by kernel_rfl) (fun _ _ _ h => h) (by rfl) ?_ hHeld ?_
          rotate_left
          · (intro w hSw; (try dsimp only at hSw); go_simp; try with_reducible rfl)
          try simp only [Act.put, List.setIfInBounds_toArray, List.set_cons_zero, List.set_cons_succ]
          refine held_take 16 ?_ rfl (by kernel_rfl) (by kernel_rfl) (by kernel_rfl) (fun _ _ _ h => h) (by rfl) ?_ hHeld ?_
          rotate_left
          · (intro w hSw; (try dsimp only at hSw); go_simp; try with_reducible rfl)
          try simp only [Act.put, List.setIfInBounds_toArray, List.set_cons_zero, List.set_cons_succ]
          refine held_take 17 ?_ rfl (by kernel_rfl) (by kernel_rfl) (by kernel_rfl) (fun _ _ _ h => h) (by rfl) ?_ hHeld ?_
          rotate_left
          · (intro w hSw; (try dsimp only at hSw); go_simp; try with_reducible rfl)
          try simp only [Act.put, List.setIfInBounds_toArray, List.set_cons_zero, List.set_cons_succ]
          refine held_one 15 rfl (by kernel_rfl) (by rfl) (fun K hK => ?_)
          go_simp
          refine hwr.mono ?_
          rintro e w' ⟨rfl, rfl⟩
          have hee : (14 * ((k : Int) + 1) != 14 * ((k : Int) + 1)) = false := by simp
          refine hK.out _ _ ?_ (fun hHeld2 => ?_)
          · (try dsimp only); (first | exact ⟨y0, y1⟩ | exact ⟨z0, z1⟩ | exact ⟨x0, x1⟩)
          clear hK K hHeld
          have hHeld := hHeld2
          clear hHeld2
          try simp only [Act.put, List.setIfInBounds_toArray, List.set_cons_zero, List.set_cons_succ]
          refine held_take 18 ?_ rfl (by kernel_rfl) (by kernel_rfl) (by kernel_rfl) (fun _ _ _ h => h) (by rfl) ?_ hHeld ?_
          rotate_left
          · (intro w hSw; (try dsimp only at hSw); go_simp; try with_reducible rfl)
          try simp only [Act.put, List.setIfInBounds_toArray, List.set_cons_zero, List.set_cons_succ]
          refine held_take 19 ?_ rfl (by kernel_rfl) (by kernel_rfl) (by kernel_rfl) (fun _ _ _ h => h) (by rfl) ?_ hHeld ?_
          rotate_left
          · (intro w hSw; (try dsimp only at hSw); go_simp; try with_reducible rfl)
          try simp only [Act.put, List.setIfInBounds_toArray, List.set_cons_zero, List.set_cons_succ]
          refine wpAnyH_done (by kernel_rfl) ?_ _
          clear hHeld
          go_wp2_with fail
          go_roundw
          case rel => unfold TurnRel; exact ⟨k + 1, by omega, by go_num, c', ((p, q), z'), hS9, HC.out.2.1, HC.out.1, HM2.out.2, by rw [HC.out.2.2]; omega, HRR.out.symm, HM2.out.1⟩
          case measure => simp [intOf]; omega
    · obtain rfl : k = m + 2 := by omega
      have hlt' : ¬ ((m + 2 : Nat) : Int) + 1 ≤ (m : Int) + 2 := by omega
      go_wp2_with fail
      go_ret
      exact ⟨rfl, hS.below⟩
end Go.Proofs.YtmfdpjijpbgjbaaDoor
