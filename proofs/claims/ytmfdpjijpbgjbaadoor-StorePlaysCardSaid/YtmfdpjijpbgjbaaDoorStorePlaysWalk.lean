/- StorePlays: the walk. -/
import Derived.Test.YtmfdpjijpbgjbaaDoorStorePlay
import Derived.Deep.CutBlock
namespace Go.Proofs.YtmfdpjijpbgjbaaDoor
open Go.RowKit
set_option linter.unusedSimpArgs false

set_option maxRecDepth 100000 in
set_option maxHeartbeats 6000000 in
theorem storePlays_main {ad : Int → Addr} (A0 A1 : Option Addr) (c0 c1 : Nat) (l : List (Int × Int)) (raw : List Int) (w : World) (hs0 : Sl w A0 (l.flatMap recC)) (hs1 : Sl w A1 (raw.map (Value.int .u8))) (hb : ∀ x ∈ raw, 0 ≤ x ∧ x ≤ 255) (hE : Errs ad w) (h30 : l.length ≤ 30) (h40 : raw.length ≤ 40) :
    Calls Tryd.prog 6 #[.slice A0 l.length c0, .slice A1 raw.length c1] w (SaysTrue w) := by
  have h30' : ¬ 30 < (l.length : Int) := by omega
  have h40' : ¬ 40 < (raw.length : Int) := by omega
  obtain ⟨ti, hi, hz, hsz, hby⟩ := info_parts rowBytes.info
  have HI := hid (And.intro hi (And.intro hz (And.intro hsz hby)))
  have hmm : (30 : Nat) ≤ maxLen := by unfold maxLen; omega
  have hb2 : ti.bytes * 30 ≤ 281474976710656 := by rw [hby]; omega
  have HM := hid (And.intro hmm hb2)
  clear hi hz hsz hby hmm hb2
  have hfl := rec_count
  have hfm := rec_life
  go_enter Tryd.func6, Tryd.ntmps6
  go_wp2_with fail
  refine (first3_any w hE.four).mono ?_
  rintro e w1 ⟨rfl, hB1⟩
  go_wp2_with fail
  refine (new_yes 30 _ (by omega) (by omega)).mono ?_
  rintro e w2 ⟨b, g, rfl, hc2, hbB, hgB, hb2⟩
  have hB2 := hB1.trans (hb2.mono hB1.size)
  have hbW := Nat.le_trans hB1.size hbB
  have hgW := Nat.le_trans hB1.size hgB
  clear hB1 hb2 hbB hgB
  go_upto_block 0 with (at_make; refine wpList_make_full _ rfl _ _ 41 rfl w2.heap.size 5 ti (.int .u8 0) 1 Tryd.underlying41 HI.out.1 HI.out.2.1 HI.out.2.2.1 .i64 .i64 _ _ 30 rfl rfl rfl rfl HM.out.2 HM.out.1 (Nat.le_refl _) ?_; intro w3 hown hg)
  have hcs : (madeCells (Value.int .u8 0).cells (30 * 1)).toList = (Cl.new 30).bs.map (Value.int .u8) := by
    rw [show (Value.int .u8 0).cells = #[Value.int .u8 0] from rfl, toList_madeCells_one]
    simp [Cl.new]
  rw [hcs] at hown
  have hb3 : Below w2.heap.size w2 w3 := ⟨hg.os, hg.tape, hg.output, hg.size, fun k hk => hg.block k hk (by simp)⟩
  obtain ⟨rg, hrgB, hr4⟩ := ref_boxed hown (by omega)
  have hB3 := hB2.trans (hb3.mono hB2.size)
  have hB4 := hB3.alloc hB3.size (.cells #[.slice (some ⟨w2.heap.size, 0, none⟩) 30 30, .int .i64 0, .int .i64 0, .bool false] 43)
  have hc4 : CellIs (w3.alloc (.cells #[.slice (some ⟨w2.heap.size, 0, none⟩) 30 30, .int .i64 0, .int .i64 0, .bool false] 43)) b g (Cl.new 30) :=
    hc2.below (hb3.trans ((Below.refl _ _).alloc hb3.size _))
  have hlt2 := hc2.lt
  have hz2 := hB2.size
  have hz3 := hb3.size
  have hFar : Far w b g w3.heap.size rg := ⟨⟨by omega, by omega, by omega, by omega⟩, by omega, by omega, by omega, by omega⟩
  have hBo : Bo w (w3.alloc (.cells #[.slice (some ⟨w2.heap.size, 0, none⟩) 30 30, .int .i64 0, .int .i64 0, .bool false] 43)) b g w3.heap.size rg 0 (Cl.new 30) :=
    ⟨hc4, hr4, Cl.new_ok 30, by simp [Cl.new], rfl, rfl, by simp [Cl.new], hB4⟩
  clear hown hg hcs hb3 hB3 hB2 hc2 hlt2 hrgB hr4 hB4 hc4 hbW hgW hz2 hz3 HI HM
  generalize w3.alloc (.cells #[.slice (some ⟨w2.heap.size, 0, none⟩) 30 30, .int .i64 0, .int .i64 0, .bool false] 43) = w4 at *
  generalize w3.heap.size = rb at *
  go_cut [9] (fun v wx => ∃ n c, n ≤ 30 ∧ Bo w wx b g rb rg n c)
  case first =>
    go_wp2_with fail
    go_loopw [9] (fun i wr => RawB w b g rb rg raw.length i wr) (fun i _ => 30 - (intOf i).toNat)
    case atStart => unfold RawB; exact ⟨0, by omega, by omega, rfl, _, hBo⟩
    case round =>
      clear hBo
      unfold RawB at hrel
      obtain ⟨k, hk, hk30, rfl, c, hR⟩ := hrel
      by_cases hlt : k < raw.length ∧ k < 30
      · obtain ⟨hl1, hl2⟩ := hlt
        obtain ⟨b0, o0, rfl, hbw, hcx⟩ := hs1.at (by rw [List.length_map]; omega)
        have hcc : w.cell? ⟨b0, o0 + k, none⟩ = some (.int .u8 raw[k]) := (hcx k (by rw [List.length_map]; omega)).trans (by simp)
        have hccr : wr.cell? ⟨b0, o0 + k, none⟩ = some (.int .u8 raw[k]) := (hR.below.cell (p := ⟨b0, o0 + k, none⟩) hbw).trans hcc
        have hx := hb _ (List.getElem_mem hl1)
        have hpu := bo_put hE.four hFar hR (by omega) k hl2 raw[k]
        have hl1' : (k : Int) < raw.length := by omega
        have hl2' : (k : Int) < 30 := by omega
        generalize raw[k] = x at *
        have HCC := hid hcc
        clear hcx hcc
        go_wp2_with fail
        refine hpu.mono ?_
        rintro e w5 ⟨rfl, hc5, hr5, hB5⟩
        have hcc5 : w5.cell? ⟨b0, o0 + k, none⟩ = some (.int .u8 x) := (hB5.cell (p := ⟨b0, o0 + k, none⟩) hbw).trans HCC.out
        have hpu2 := bo_put2 hFar hc5 hr5 hB5 hR.ok hR.len hR.up hR.fuse hR.ws (by omega) hl2 hx
        clear hpu hc5 hr5 hB5 hccr
        go_wp2_with fail
        refine hpu2.mono ?_
        rintro e w6 ⟨rfl, hR6⟩
        clear hpu2 hR hcc5
        go_wp2_with fail
        go_roundw
        case rel => unfold RawB; exact ⟨k + 1, by omega, by omega, by go_num, _, hR6⟩
        case measure => simp [intOf]; omega
      · have hex : ¬ (k : Int) < raw.length ∨ ((k : Int) < raw.length ∧ ¬ (k : Int) < 30) := by omega
        have HR := hid hR
        clear hlt hR
        rcases hex with h1 | ⟨h1, h2⟩
        · go_wp2_with fail
          go_meet
          exact ⟨k, c, hk30, HR.out⟩
        · go_wp2_with fail
          go_meet
          exact ⟨k, c, hk30, HR.out⟩
  case rest =>
  obtain ⟨n, c, hn30, hR⟩ := hcut
  clear hBo
  have hop := open_any wc (hE.four.below hR.below) hR.cell hR.ok hR.up (by rw [hR.len]; omega) (by rw [hR.len]; omega)
  go_wp2_with fail
  refine hop.mono ?_
  rintro e w5 ⟨s, rfl, hs5, hlt5, hb5⟩
  have hlc := hR.cell.lt
  have hlr := hR.ref.lt
  have hsz := hR.below.size
  obtain ⟨⟨f1, f2, f3, f4⟩, f5, f6, f7, f8⟩ := hFar
  have hlen := hR.len
  have hws := hR.ws
  have hS5 : St w w5 b g s c (openR c.bs) := ⟨hR.cell.below hb5, hs5, hR.ok, by omega, hR.up, by omega, openR_rng _, hR.below.trans (hb5.mono hR.below.size), ⟨f1, f2, by omega⟩, by omega, by omega⟩
  have hr5 := hR.ref.below hb5
  have hro := refOpen_any w5 hr5 hR.ok hR.up (by rw [hR.len]; omega) (by rw [hR.len]; omega)
  have hfu := hR.fuse
  have hltS := hS5.lt
  clear hop hs5 hR
  go_wp2_with fail
  refine hro.mono ?_
  rintro e w6 ⟨y, rfl, hy6, hlty, hb6⟩
  have hS6 := hS5.on hb6
  have hR6 : Rt w w6 rb rg y c (openR c.bs) := ⟨hr5.below hb6, hy6, ⟨f3, f4, by omega⟩, by have := hb5.size; omega, by have := hb5.size; omega⟩
  have hDis : Dis b g s rb rg y := ⟨⟨f5, f6, by omega⟩, ⟨f7, f8, by omega⟩, by omega, by omega, by omega⟩
  clear hro hy6 hr5 hS5 hb5 hb6
  go_wp2_with fail
  go_loopw [14] (fun i wr => PlRel w b g s rb rg y l.length i wr) (fun i _ => l.length - (intOf i).toNat)
  case atStart => unfold PlRel; exact ⟨0, by omega, rfl, c, _, hS6, hR6, hfu, hlen, rfl, by omega⟩
  case round =>
    clear hS6 hR6
    unfold PlRel at hrel
    obtain ⟨k, hk, rfl, c, a, hS, hR, hf, hl30, hoa, hwr⟩ := hrel
    by_cases hlt : k < l.length
    · obtain ⟨⟨x, y1⟩, z⟩ := a
      obtain ⟨b0, o0, rfl, hbw, hcx⟩ := hs0.at (by rw [flat_length recC_len]; omega)
      obtain ⟨⟨p, q⟩, hpq⟩ : ∃ d, l[k]? = some d := ⟨l[k], List.getElem?_eq_getElem hlt⟩
      have hcell : ∀ j, j < 2 → w.cell? ⟨b0, o0 + (k * 2 + j), none⟩ = (recC (p, q))[j]? := fun j hj => by
        rw [hcx (k * 2 + j) (by rw [flat_length recC_len]; omega)]
        have := flat_get recC_len l [] k j (p, q) hpq hj
        simpa using this
      have e0 : w.cell? ⟨b0, o0 + k * 2, none⟩ = some (.int .i64 p) := hcell 0 (by omega)
      have e1 : w.cell? ⟨b0, o0 + k * 2 + 1, none⟩ = some (.int .i64 q) := hcell 1 (by omega)
      clear hcell hcx hpq
      have hlt' : (k : Int) < l.length := by omega
      go_upto_region 22 with (fail)
      go_cut [117] (fun v wx => v = .bool false ∧ ∃ c a1 z, St w wx b g s c (a1, z) ∧ Rt w wx rb rg y c (a1, z) ∧ c.fuse = 0 ∧ c.bs.length = 30 ∧ openR c.bs = (a1, z) ∧ c.writes ≤ 30 + 14 * ((k : Int) + 1))
      case first =>
        by_cases hbd : badE (x, y1) (p, q) = 0
        · skip
          have hS0 : St w (_root_.Go.World.drew wr) b g s c ((x, y1), z) := hS.on ((Below.refl _ _).drew)
          have hR0 : Rt w (_root_.Go.World.drew wr) rb rg y c ((x, y1), z) := hR.on ((Below.refl _ _).drew)
          have hB0 := hS0.below
          clear hS hR
          have hv := st_save hE.four hS0 hf (p, q) hbd (by omega)
          have hk1 : (c.kept z (p, q)).bs.length = 30 := (kept_len z (p, q)).trans hl30
          have hk2 : openR (c.kept z (p, q)).bs = ((p, q), (saveS z : Int)) := kept_open (a := ((x, y1), z)) (by omega) hoa hbd
          have hk3 : (c.kept z (p, q)).writes ≤ 30 + 14 * ((k : Int) + 1) := by rw [kept_w]; omega
          have hk4 : (c.kept z (p, q)).fuse = 0 := rfl
          have hrs0 : ∀ w', RefAt w' rb rg c → RStIs w' y rb ((x, y1), z) → y ≠ rb → y ≠ rg → Calls Tryd.prog 31 #[.pointer (some ⟨y, 0, none⟩), .agg #[.int .i64 p, .int .i64 q]] w' (GivesRSave w' rb rg y (c.kept z (p, q)) ((p, q), (saveS z : Int)) 0) := fun w' h1 h2 h3 h4 =>
            refSave_any (a := ((x, y1), z)) (p, q) w' h1 h2 hbd hS0.ok hS0.up hf hS0.writes (by omega) h3 h4 hS0.at_
          have hv : Calls Tryd.prog 30 #[.pointer (some ⟨s, 0, none⟩), .agg #[.int .i64 p, .int .i64 q]] _ (GivesSt ad w _ b g s (c.kept z (p, q)) ((p, q), (saveS z : Int)) 0) := hv
          generalize c.kept z (p, q) = ck at *
          generalize (saveS z : Int) = zk at *
          go_wp2_with fail
          refine wp_region_held_drew (S := fun w' => w'.cell? ⟨b0, o0 + k * 2, none⟩ = some (.int .i64 p) ∧ w'.cell? ⟨b0, o0 + k * 2 + 1, none⟩ = some (.int .i64 q)) (by kernel_rfl) ?_ (fun hHeld => ?_)
          · (try dsimp only); (first | exact ⟨(hB0.cell (p := ⟨b0, o0 + k * 2, none⟩) hbw).trans e0, (hB0.cell (p := ⟨b0, o0 + k * 2 + 1, none⟩) hbw).trans e1⟩ | exact ⟨(hS5.below.cell (p := ⟨b0, o0 + k * 2, none⟩) hbw).trans e0, (hS5.below.cell (p := ⟨b0, o0 + k * 2 + 1, none⟩) hbw).trans e1⟩ | exact ⟨(hS6.below.cell (p := ⟨b0, o0 + k * 2, none⟩) hbw).trans e0, (hS6.below.cell (p := ⟨b0, o0 + k * 2 + 1, none⟩) hbw).trans e1⟩ | exact ⟨(hS7.below.cell (p := ⟨b0, o0 + k * 2, none⟩) hbw).trans e0, (hS7.below.cell (p := ⟨b0, o0 + k * 2 + 1, none⟩) hbw).trans e1⟩)
          refine held_take 0 ?_ rfl (by kernel_rfl) (by kernel_rfl) (by kernel_rfl) (fun _ _ _ h => h) (by rfl) ?_ hHeld ?_
          rotate_left
          · (intro w hSw; (try dsimp only at hSw); go_simp; try with_reducible rfl)
          try simp only [Act.put, List.setIfInBounds_toArray, List.set_cons_zero, List.set_cons_succ]
          refine held_take 1 ?_ rfl (by kernel_rfl) (by kernel_rfl) (by kernel_rfl) (fun _ _ _ h => h) (by rfl) ?_ hHeld ?_
          rotate_left
          · (intro w hSw; (try dsimp only at hSw); go_simp; try with_reducible rfl)
          try simp only [Act.put, List.setIfInBounds_toArray, List.set_cons_zero, List.set_cons_succ]
          refine held_take 2 ?_ rfl (by kernel_rfl) (by kernel_rfl) (by kernel_rfl) (fun _ _ _ h => h) (by rfl) ?_ hHeld ?_
          rotate_left
          · (intro w hSw; (try dsimp only at hSw); go_simp; try with_reducible rfl)
          try simp only [Act.put, List.setIfInBounds_toArray, List.set_cons_zero, List.set_cons_succ]
          refine held_take 3 ?_ rfl (by kernel_rfl) (by kernel_rfl) (by kernel_rfl) (fun _ _ _ h => h) (by rfl) ?_ hHeld ?_
          rotate_left
          · (intro w hSw; (try dsimp only at hSw); go_simp; try with_reducible rfl)
          try simp only [Act.put, List.setIfInBounds_toArray, List.set_cons_zero, List.set_cons_succ]
          refine held_take 4 ?_ rfl (by kernel_rfl) (by kernel_rfl) (by kernel_rfl) (fun _ _ _ h => h) (by rfl) ?_ hHeld ?_
          rotate_left
          · (intro w hSw; (try dsimp only at hSw); go_simp; try with_reducible rfl)
          try simp only [Act.put, List.setIfInBounds_toArray, List.set_cons_zero, List.set_cons_succ]
          refine held_take 6 ?_ rfl (by kernel_rfl) (by kernel_rfl) (by kernel_rfl) (fun _ _ _ h => h) (by rfl) ?_ hHeld ?_
          rotate_left
          · (intro w hSw; (try dsimp only at hSw); go_simp; try with_reducible rfl)
          try simp only [Act.put, List.setIfInBounds_toArray, List.set_cons_zero, List.set_cons_succ]
          refine held_take 7 ?_ rfl (by kernel_rfl) (by kernel_rfl) (by kernel_rfl) (fun _ _ _ h => h) (by rfl) ?_ hHeld ?_
          rotate_left
          · (intro w hSw; (try dsimp only at hSw); go_simp; try with_reducible rfl)
          try simp only [Act.put, List.setIfInBounds_toArray, List.set_cons_zero, List.set_cons_succ]
          refine held_take 8 ?_ rfl (by kernel_rfl) (by kernel_rfl) (by kernel_rfl) (fun _ _ _ h => h) (by rfl) ?_ hHeld ?_
          rotate_left
          · (intro w hSw; (try dsimp only at hSw); go_simp; try with_reducible rfl)
          try simp only [Act.put, List.setIfInBounds_toArray, List.set_cons_zero, List.set_cons_succ]
          refine held_take 9 ?_ rfl (by kernel_rfl) (by kernel_rfl) (by kernel_rfl) (fun _ _ _ h => h) (by rfl) ?_ hHeld ?_
          rotate_left
          · (intro w hSw; (try dsimp only at hSw); go_simp; try with_reducible rfl)
          try simp only [Act.put, List.setIfInBounds_toArray, List.set_cons_zero, List.set_cons_succ]
          refine held_take 10 ?_ rfl (by kernel_rfl) (by kernel_rfl) (by kernel_rfl) (fun _ _ _ h => h) (by rfl) ?_ hHeld ?_
          rotate_left
          · (intro w hSw; (try dsimp only at hSw); go_simp; try with_reducible rfl)
          try simp only [Act.put, List.setIfInBounds_toArray, List.set_cons_zero, List.set_cons_succ]
          refine held_take 11 ?_ rfl (by kernel_rfl) (by kernel_rfl) (by kernel_rfl) (fun _ _ _ h => h) (by rfl) ?_ hHeld ?_
          rotate_left
          · (intro w hSw; (try dsimp only at hSw); go_simp; try with_reducible rfl)
          try simp only [Act.put, List.setIfInBounds_toArray, List.set_cons_zero, List.set_cons_succ]
          refine held_take 12 ?_ rfl (by kernel_rfl) (by kernel_rfl) (by kernel_rfl) (fun _ _ _ h => h) (by rfl) ?_ hHeld ?_
          rotate_left
          · (intro w hSw; (try dsimp only at hSw); go_simp; try with_reducible rfl)
          try simp only [Act.put, List.setIfInBounds_toArray, List.set_cons_zero, List.set_cons_succ]
          refine held_take 13 ?_ rfl (by kernel_rfl) (by kernel_rfl) (by kernel_rfl) (fun _ _ _ h => h) (by rfl) ?_ hHeld ?_
          rotate_left
          · (intro w hSw; (try dsimp only at hSw); go_simp; try with_reducible rfl)
          try simp only [Act.put, List.setIfInBounds_toArray, List.set_cons_zero, List.set_cons_succ]
          refine held_take 14 ?_ rfl (by kernel_rfl) (by kernel_rfl) (by kernel_rfl) (fun _ _ _ h => h) (by rfl) ?_ hHeld ?_
          rotate_left
          · (intro w hSw; (try dsimp only at hSw); go_simp; try with_reducible rfl)
          try simp only [Act.put, List.setIfInBounds_toArray, List.set_cons_zero, List.set_cons_succ]
          refine held_take 15 ?_ rfl (by kernel_rfl) (by kernel_rfl) (by kernel_rfl) (fun _ _ _ h => h) (by rfl) ?_ hHeld ?_
          rotate_left
          · (intro w hSw; (try dsimp only at hSw); go_simp; try with_reducible rfl)
          try simp only [Act.put, List.setIfInBounds_toArray, List.set_cons_zero, List.set_cons_succ]
          refine held_take 16 ?_ rfl (by kernel_rfl) (by kernel_rfl) (by kernel_rfl) (fun _ _ _ h => h) (by rfl) ?_ hHeld ?_
          rotate_left
          · (intro w hSw; (try dsimp only at hSw); go_simp; try with_reducible rfl)
          try simp only [Act.put, List.setIfInBounds_toArray, List.set_cons_zero, List.set_cons_succ]
          refine held_take 17 ?_ rfl (by kernel_rfl) (by kernel_rfl) (by kernel_rfl) (fun _ _ _ h => h) (by rfl) ?_ hHeld ?_
          rotate_left
          · (intro w hSw; (try dsimp only at hSw); go_simp; try with_reducible rfl)
          try simp only [Act.put, List.setIfInBounds_toArray, List.set_cons_zero, List.set_cons_succ]
          refine held_one 5 rfl (by kernel_rfl) (by rfl) (fun K hK => ?_)
          go_simp
          refine hv.mono ?_
          rintro e w5 ⟨rfl, hS5, he5⟩
          have hR5 := hR0.off hDis he5
          rw [errV_zero]
          have hrs := hrs0 w5 hR5.ref hR5.st hR5.ne.1 hR5.ne.2
          refine hK.out _ _ ?_ (fun hHeld2 => ?_)
          · (try dsimp only); (first | exact ⟨(hB0.cell (p := ⟨b0, o0 + k * 2, none⟩) hbw).trans e0, (hB0.cell (p := ⟨b0, o0 + k * 2 + 1, none⟩) hbw).trans e1⟩ | exact ⟨(hS5.below.cell (p := ⟨b0, o0 + k * 2, none⟩) hbw).trans e0, (hS5.below.cell (p := ⟨b0, o0 + k * 2 + 1, none⟩) hbw).trans e1⟩ | exact ⟨(hS6.below.cell (p := ⟨b0, o0 + k * 2, none⟩) hbw).trans e0, (hS6.below.cell (p := ⟨b0, o0 + k * 2 + 1, none⟩) hbw).trans e1⟩ | exact ⟨(hS7.below.cell (p := ⟨b0, o0 + k * 2, none⟩) hbw).trans e0, (hS7.below.cell (p := ⟨b0, o0 + k * 2 + 1, none⟩) hbw).trans e1⟩)
          clear hK K hHeld
          have hHeld := hHeld2
          clear hHeld2
          try simp only [Act.put, List.setIfInBounds_toArray, List.set_cons_zero, List.set_cons_succ]
          refine held_one 18 rfl (by kernel_rfl) (by rfl) (fun K hK => ?_)
          go_simp
          refine hrs.mono ?_
          rintro e w6 ⟨rfl, hr6, hy6, he6⟩
          have hS6 := hS5.off3 hDis hR5 he6
          have hR6 : Rt w w6 rb rg y ck ((p, q), zk) := ⟨hr6, hy6, hR5.new, hR5.ne⟩
          have his : Calls Tryd.prog 22 #[.nilIface, .int .i64 0] w6 (SaysBool w6 true) := is_any (ad := ad) (k := 0) 0 (hE.below hS6.below) (.inl rfl)
          refine hK.out _ _ ?_ (fun hHeld2 => ?_)
          · (try dsimp only); (first | exact ⟨(hB0.cell (p := ⟨b0, o0 + k * 2, none⟩) hbw).trans e0, (hB0.cell (p := ⟨b0, o0 + k * 2 + 1, none⟩) hbw).trans e1⟩ | exact ⟨(hS5.below.cell (p := ⟨b0, o0 + k * 2, none⟩) hbw).trans e0, (hS5.below.cell (p := ⟨b0, o0 + k * 2 + 1, none⟩) hbw).trans e1⟩ | exact ⟨(hS6.below.cell (p := ⟨b0, o0 + k * 2, none⟩) hbw).trans e0, (hS6.below.cell (p := ⟨b0, o0 + k * 2 + 1, none⟩) hbw).trans e1⟩ | exact ⟨(hS7.below.cell (p := ⟨b0, o0 + k * 2, none⟩) hbw).trans e0, (hS7.below.cell (p := ⟨b0, o0 + k * 2 + 1, none⟩) hbw).trans e1⟩)
          clear hK K hHeld
          have hHeld := hHeld2
          clear hHeld2
          try simp only [Act.put, List.setIfInBounds_toArray, List.set_cons_zero, List.set_cons_succ]
          refine held_one 19 rfl (by kernel_rfl) (by rfl) (fun K hK => ?_)
          go_simp
          refine his.mono ?_
          rintro e w7 ⟨rfl, hb7⟩
          have hS7 := hS6.on hb7
          have hR7 := hR6.on hb7
          refine hK.out _ _ ?_ (fun hHeld2 => ?_)
          · (try dsimp only); (first | exact ⟨(hB0.cell (p := ⟨b0, o0 + k * 2, none⟩) hbw).trans e0, (hB0.cell (p := ⟨b0, o0 + k * 2 + 1, none⟩) hbw).trans e1⟩ | exact ⟨(hS5.below.cell (p := ⟨b0, o0 + k * 2, none⟩) hbw).trans e0, (hS5.below.cell (p := ⟨b0, o0 + k * 2 + 1, none⟩) hbw).trans e1⟩ | exact ⟨(hS6.below.cell (p := ⟨b0, o0 + k * 2, none⟩) hbw).trans e0, (hS6.below.cell (p := ⟨b0, o0 + k * 2 + 1, none⟩) hbw).trans e1⟩ | exact ⟨(hS7.below.cell (p := ⟨b0, o0 + k * 2, none⟩) hbw).trans e0, (hS7.below.cell (p := ⟨b0, o0 + k * 2 + 1, none⟩) hbw).trans e1⟩)
          clear hK K hHeld
          have hHeld := hHeld2
          clear hHeld2
          try simp only [Act.put, List.setIfInBounds_toArray, List.set_cons_zero, List.set_cons_succ]
          refine held_take 20 ?_ rfl (by kernel_rfl) (by kernel_rfl) (by kernel_rfl) (fun _ _ _ h => h) (by rfl) ?_ hHeld ?_
          rotate_left
          · (intro w hSw; (try dsimp only at hSw); go_simp; try with_reducible rfl)
          try simp only [Act.put, List.setIfInBounds_toArray, List.set_cons_zero, List.set_cons_succ]
          refine wpAnyH_done (by kernel_rfl) ?_ _
          clear hHeld
          go_wp2_with fail
          go_meet
          exact ⟨rfl, ck, (p, q), zk, hS7, hR7, hk4, hk1, hk2, hk3⟩
        · obtain ⟨kk, hkk⟩ : ∃ kk, badE (x, y1) (p, q) = kk := ⟨_, rfl⟩
          have HBK : Hid (Bare kk) := hkk ▸ bad_bare (x, y1) (p, q)
          rw [hkk] at hbd
          have hS0 : St w (_root_.Go.World.drew wr) b g s c ((x, y1), z) := hS.on ((Below.refl _ _).drew)
          have hR0 : Rt w (_root_.Go.World.drew wr) rb rg y c ((x, y1), z) := hR.on ((Below.refl _ _).drew)
          have hB0 := hS0.below
          clear hS hR
          have hv := st_bad hE.four hS0 (p, q) (by rw [hkk]; exact hbd)
          rw [hkk] at hv
          have hv : Calls Tryd.prog 30 #[.pointer (some ⟨s, 0, none⟩), .agg #[.int .i64 p, .int .i64 q]] (_root_.Go.World.drew wr) (fun e w' => e = .returned (.iface 103 (.pointer (some (ad kk)))) ∧ St w w' b g s c ((x, y1), z) ∧ Eff (At3 b g s) (_root_.Go.World.drew wr) w') := by
            rw [← errV_ne ad hbd]
            exact hv
          go_wp2_with fail
          refine wp_region_held_drew (S := fun w' => w'.cell? ⟨b0, o0 + k * 2, none⟩ = some (.int .i64 p) ∧ w'.cell? ⟨b0, o0 + k * 2 + 1, none⟩ = some (.int .i64 q)) (by kernel_rfl) ?_ (fun hHeld => ?_)
          · (try dsimp only); (first | exact ⟨(hB0.cell (p := ⟨b0, o0 + k * 2, none⟩) hbw).trans e0, (hB0.cell (p := ⟨b0, o0 + k * 2 + 1, none⟩) hbw).trans e1⟩ | exact ⟨(hS5.below.cell (p := ⟨b0, o0 + k * 2, none⟩) hbw).trans e0, (hS5.below.cell (p := ⟨b0, o0 + k * 2 + 1, none⟩) hbw).trans e1⟩ | exact ⟨(hS6.below.cell (p := ⟨b0, o0 + k * 2, none⟩) hbw).trans e0, (hS6.below.cell (p := ⟨b0, o0 + k * 2 + 1, none⟩) hbw).trans e1⟩ | exact ⟨(hS7.below.cell (p := ⟨b0, o0 + k * 2, none⟩) hbw).trans e0, (hS7.below.cell (p := ⟨b0, o0 + k * 2 + 1, none⟩) hbw).trans e1⟩)
          refine held_take 0 ?_ rfl (by kernel_rfl) (by kernel_rfl) (by kernel_rfl) (fun _ _ _ h => h) (by rfl) ?_ hHeld ?_
          rotate_left
          · (intro w hSw; (try dsimp only at hSw); go_simp; try with_reducible rfl)
          try simp only [Act.put, List.setIfInBounds_toArray, List.set_cons_zero, List.set_cons_succ]
          refine held_take 1 ?_ rfl (by kernel_rfl) (by kernel_rfl) (by kernel_rfl) (fun _ _ _ h => h) (by rfl) ?_ hHeld ?_
          rotate_left
          · (intro w hSw; (try dsimp only at hSw); go_simp; try with_reducible rfl)
          try simp only [Act.put, List.setIfInBounds_toArray, List.set_cons_zero, List.set_cons_succ]
          refine held_take 2 ?_ rfl (by kernel_rfl) (by kernel_rfl) (by kernel_rfl) (fun _ _ _ h => h) (by rfl) ?_ hHeld ?_
          rotate_left
          · (intro w hSw; (try dsimp only at hSw); go_simp; try with_reducible rfl)
          try simp only [Act.put, List.setIfInBounds_toArray, List.set_cons_zero, List.set_cons_succ]
          refine held_take 3 ?_ rfl (by kernel_rfl) (by kernel_rfl) (by kernel_rfl) (fun _ _ _ h => h) (by rfl) ?_ hHeld ?_
          rotate_left
          · (intro w hSw; (try dsimp only at hSw); go_simp; try with_reducible rfl)
          try simp only [Act.put, List.setIfInBounds_toArray, List.set_cons_zero, List.set_cons_succ]
          refine held_take 4 ?_ rfl (by kernel_rfl) (by kernel_rfl) (by kernel_rfl) (fun _ _ _ h => h) (by rfl) ?_ hHeld ?_
          rotate_left
          · (intro w hSw; (try dsimp only at hSw); go_simp; try with_reducible rfl)
          try simp only [Act.put, List.setIfInBounds_toArray, List.set_cons_zero, List.set_cons_succ]
          refine held_take 6 ?_ rfl (by kernel_rfl) (by kernel_rfl) (by kernel_rfl) (fun _ _ _ h => h) (by rfl) ?_ hHeld ?_
          rotate_left
          · (intro w hSw; (try dsimp only at hSw); go_simp; try with_reducible rfl)
          try simp only [Act.put, List.setIfInBounds_toArray, List.set_cons_zero, List.set_cons_succ]
          refine held_take 7 ?_ rfl (by kernel_rfl) (by kernel_rfl) (by kernel_rfl) (fun _ _ _ h => h) (by rfl) ?_ hHeld ?_
          rotate_left
          · (intro w hSw; (try dsimp only at hSw); go_simp; try with_reducible rfl)
          try simp only [Act.put, List.setIfInBounds_toArray, List.set_cons_zero, List.set_cons_succ]
          refine held_take 8 ?_ rfl (by kernel_rfl) (by kernel_rfl) (by kernel_rfl) (fun _ _ _ h => h) (by rfl) ?_ hHeld ?_
          rotate_left
          · (intro w hSw; (try dsimp only at hSw); go_simp; try with_reducible rfl)
          try simp only [Act.put, List.setIfInBounds_toArray, List.set_cons_zero, List.set_cons_succ]
          refine held_take 9 ?_ rfl (by kernel_rfl) (by kernel_rfl) (by kernel_rfl) (fun _ _ _ h => h) (by rfl) ?_ hHeld ?_
          rotate_left
          · (intro w hSw; (try dsimp only at hSw); go_simp; try with_reducible rfl)
          try simp only [Act.put, List.setIfInBounds_toArray, List.set_cons_zero, List.set_cons_succ]
          refine held_take 10 ?_ rfl (by kernel_rfl) (by kernel_rfl) (by kernel_rfl) (fun _ _ _ h => h) (by rfl) ?_ hHeld ?_
          rotate_left
          · (intro w hSw; (try dsimp only at hSw); go_simp; try with_reducible rfl)
          try simp only [Act.put, List.setIfInBounds_toArray, List.set_cons_zero, List.set_cons_succ]
          refine held_take 11 ?_ rfl (by kernel_rfl) (by kernel_rfl) (by kernel_rfl) (fun _ _ _ h => h) (by rfl) ?_ hHeld ?_
          rotate_left
          · (intro w hSw; (try dsimp only at hSw); go_simp; try with_reducible rfl)
          try simp only [Act.put, List.setIfInBounds_toArray, List.set_cons_zero, List.set_cons_succ]
          refine held_take 12 ?_ rfl (by kernel_rfl) (by kernel_rfl) (by kernel_rfl) (fun _ _ _ h => h) (by rfl) ?_ hHeld ?_
          rotate_left
          · (intro w hSw; (try dsimp only at hSw); go_simp; try with_reducible rfl)
          try simp only [Act.put, List.setIfInBounds_toArray, List.set_cons_zero, List.set_cons_succ]
          refine held_take 13 ?_ rfl (by kernel_rfl) (by kernel_rfl) (by kernel_rfl) (fun _ _ _ h => h) (by rfl) ?_ hHeld ?_
          rotate_left
          · (intro w hSw; (try dsimp only at hSw); go_simp; try with_reducible rfl)
          try simp only [Act.put, List.setIfInBounds_toArray, List.set_cons_zero, List.set_cons_succ]
          refine held_take 14 ?_ rfl (by kernel_rfl) (by kernel_rfl) (by kernel_rfl) (fun _ _ _ h => h) (by rfl) ?_ hHeld ?_
          rotate_left
          · (intro w hSw; (try dsimp only at hSw); go_simp; try with_reducible rfl)
          try simp only [Act.put, List.setIfInBounds_toArray, List.set_cons_zero, List.set_cons_succ]
          refine held_take 15 ?_ rfl (by kernel_rfl) (by kernel_rfl) (by kernel_rfl) (fun _ _ _ h => h) (by rfl) ?_ hHeld ?_
          rotate_left
          · (intro w hSw; (try dsimp only at hSw); go_simp; try with_reducible rfl)
          try simp only [Act.put, List.setIfInBounds_toArray, List.set_cons_zero, List.set_cons_succ]
          refine held_take 16 ?_ rfl (by kernel_rfl) (by kernel_rfl) (by kernel_rfl) (fun _ _ _ h => h) (by rfl) ?_ hHeld ?_
          rotate_left
          · (intro w hSw; (try dsimp only at hSw); go_simp; try with_reducible rfl)
          try simp only [Act.put, List.setIfInBounds_toArray, List.set_cons_zero, List.set_cons_succ]
          refine held_take 17 ?_ rfl (by kernel_rfl) (by kernel_rfl) (by kernel_rfl) (fun _ _ _ h => h) (by rfl) ?_ hHeld ?_
          rotate_left
          · (intro w hSw; (try dsimp only at hSw); go_simp; try with_reducible rfl)
          try simp only [Act.put, List.setIfInBounds_toArray, List.set_cons_zero, List.set_cons_succ]
          refine held_one 5 rfl (by kernel_rfl) (by rfl) (fun K hK => ?_)
          go_simp
          refine hv.mono ?_
          rintro e w5 ⟨rfl, hS5, he5⟩
          have hR5 := hR0.off hDis he5
          have hrs := refSaveBad_any (p, q) w5 hR5.ref hR5.st (by rw [hkk]; exact hbd)
          rw [hkk] at hrs
          refine hK.out _ _ ?_ (fun hHeld2 => ?_)
          · (try dsimp only); (first | exact ⟨(hB0.cell (p := ⟨b0, o0 + k * 2, none⟩) hbw).trans e0, (hB0.cell (p := ⟨b0, o0 + k * 2 + 1, none⟩) hbw).trans e1⟩ | exact ⟨(hS5.below.cell (p := ⟨b0, o0 + k * 2, none⟩) hbw).trans e0, (hS5.below.cell (p := ⟨b0, o0 + k * 2 + 1, none⟩) hbw).trans e1⟩ | exact ⟨(hS6.below.cell (p := ⟨b0, o0 + k * 2, none⟩) hbw).trans e0, (hS6.below.cell (p := ⟨b0, o0 + k * 2 + 1, none⟩) hbw).trans e1⟩ | exact ⟨(hS7.below.cell (p := ⟨b0, o0 + k * 2, none⟩) hbw).trans e0, (hS7.below.cell (p := ⟨b0, o0 + k * 2 + 1, none⟩) hbw).trans e1⟩)
          clear hK K hHeld
          have hHeld := hHeld2
          clear hHeld2
          try simp only [Act.put, List.setIfInBounds_toArray, List.set_cons_zero, List.set_cons_succ]
          refine held_one 18 rfl (by kernel_rfl) (by rfl) (fun K hK => ?_)
          go_simp
          refine hrs.mono ?_
          rintro e w6 ⟨rfl, hr6, hy6, he6⟩
          have hS6 := hS5.off3 hDis hR5 he6
          have hR6 : Rt w w6 rb rg y c ((x, y1), z) := ⟨hr6, hy6, hR5.new, hR5.ne⟩
          have his := is_any kk (hE.below hS6.below) HBK.out
          rw [errV_ne ad hbd, show (kk == kk) = true from by simp] at his
          refine hK.out _ _ ?_ (fun hHeld2 => ?_)
          · (try dsimp only); (first | exact ⟨(hB0.cell (p := ⟨b0, o0 + k * 2, none⟩) hbw).trans e0, (hB0.cell (p := ⟨b0, o0 + k * 2 + 1, none⟩) hbw).trans e1⟩ | exact ⟨(hS5.below.cell (p := ⟨b0, o0 + k * 2, none⟩) hbw).trans e0, (hS5.below.cell (p := ⟨b0, o0 + k * 2 + 1, none⟩) hbw).trans e1⟩ | exact ⟨(hS6.below.cell (p := ⟨b0, o0 + k * 2, none⟩) hbw).trans e0, (hS6.below.cell (p := ⟨b0, o0 + k * 2 + 1, none⟩) hbw).trans e1⟩ | exact ⟨(hS7.below.cell (p := ⟨b0, o0 + k * 2, none⟩) hbw).trans e0, (hS7.below.cell (p := ⟨b0, o0 + k * 2 + 1, none⟩) hbw).trans e1⟩)
          clear hK K hHeld
          have hHeld := hHeld2
          clear hHeld2
          try simp only [Act.put, List.setIfInBounds_toArray, List.set_cons_zero, List.set_cons_succ]
          refine held_one 19 rfl (by kernel_rfl) (by rfl) (fun K hK => ?_)
          go_simp
          refine his.mono ?_
          rintro e w7 ⟨rfl, hb7⟩
          have hS7 := hS6.on hb7
          have hR7 := hR6.on hb7
          refine hK.out _ _ ?_ (fun hHeld2 => ?_)
          · (try dsimp only); (first | exact ⟨(hB0.cell (p := ⟨b0, o0 + k * 2, none⟩) hbw).trans e0, (hB0.cell (p := ⟨b0, o0 + k * 2 + 1, none⟩) hbw).trans e1⟩ | exact ⟨(hS5.below.cell (p := ⟨b0, o0 + k * 2, none⟩) hbw).trans e0, (hS5.below.cell (p := ⟨b0, o0 + k * 2 + 1, none⟩) hbw).trans e1⟩ | exact ⟨(hS6.below.cell (p := ⟨b0, o0 + k * 2, none⟩) hbw).trans e0, (hS6.below.cell (p := ⟨b0, o0 + k * 2 + 1, none⟩) hbw).trans e1⟩ | exact ⟨(hS7.below.cell (p := ⟨b0, o0 + k * 2, none⟩) hbw).trans e0, (hS7.below.cell (p := ⟨b0, o0 + k * 2 + 1, none⟩) hbw).trans e1⟩)
          clear hK K hHeld
          have hHeld := hHeld2
          clear hHeld2
          try simp only [Act.put, List.setIfInBounds_toArray, List.set_cons_zero, List.set_cons_succ]
          refine held_take 20 ?_ rfl (by kernel_rfl) (by kernel_rfl) (by kernel_rfl) (fun _ _ _ h => h) (by rfl) ?_ hHeld ?_
          rotate_left
          · (intro w hSw; (try dsimp only at hSw); go_simp; try with_reducible rfl)
          try simp only [Act.put, List.setIfInBounds_toArray, List.set_cons_zero, List.set_cons_succ]
          refine wpAnyH_done (by kernel_rfl) ?_ _
          clear hHeld
          go_wp2_with fail
          go_meet
          exact ⟨rfl, c, (x, y1), z, hS7, hR7, hf, hl30, hoa, by omega⟩
      case rest =>
      obtain ⟨rfl, c', ⟨x', y'⟩, z', hS9, hR9, hf9, hl9, ho9, hw9⟩ := hcut
      clear hS hR hf hl30 hoa hwr e0 e1
      have hop := st_open hE.four hS9
      have hok9 := hS9.ok
      have hup9 := hS9.up
      go_wp2_with fail
      refine hop.mono ?_
      rintro e w10 ⟨t, rfl, hT10, hS10, hb10, hlt10⟩
      rw [ho9] at hT10
      have hR10 := hR9.on hb10
      have hro := refOpen_any w10 hR10.ref hok9 hup9 (by omega) (by omega)
      rw [ho9] at hro
      clear hop hS9 hR9 hb10
      go_wp2_with fail
      refine hro.mono ?_
      rintro e w11 ⟨yz, rfl, hZ11, hlty2, hb11⟩
      have hT11 := hT10.on hb11
      have hS11 := hS10.on hb11
      have hR11 := hR10.on hb11
      clear hro hT10 hS10 hR10 hb11
      go_wp2_with fail
      have hb12 : Below w11.heap.size w11 (_root_.Go.World.drew w11) := (Below.refl _ _).drew
      have hT12 := hT11.on hb12
      have hS12 := hS11.on hb12
      have hR12 := hR11.on hb12
      have hZ12 := (Eff.of_below (S := fun _ => False) hb12).blk hZ11 (fun h => h)
      clear hT11 hS11 hR11 hZ11 hb12
      refine wp_region_held_drew (S := fun w' => w'.cell? ⟨y, 1, none⟩ = some (.int .i64 x') ∧ w'.cell? ⟨y, 2, none⟩ = some (.int .i64 y') ∧ w'.cell? ⟨yz, 1, none⟩ = some (.int .i64 x') ∧ w'.cell? ⟨yz, 2, none⟩ = some (.int .i64 y')) (by kernel_rfl) ?_ (fun hHeld => ?_)
      · (try dsimp only); (first | exact ⟨hR12.st.cell 1, hR12.st.cell 2, hZ12.cell 1, hZ12.cell 2⟩ | exact ⟨hR13.st.cell 1, hR13.st.cell 2, hZ13.cell 1, hZ13.cell 2⟩ | exact ⟨hR14.st.cell 1, hR14.st.cell 2, hZ14.cell 1, hZ14.cell 2⟩ | exact ⟨hR15.st.cell 1, hR15.st.cell 2, hZ15.cell 1, hZ15.cell 2⟩ | exact ⟨hR16.st.cell 1, hR16.st.cell 2, hZ16.cell 1, hZ16.cell 2⟩)
      refine held_take 0 ?_ rfl (by kernel_rfl) (by kernel_rfl) (by kernel_rfl) (fun _ _ _ h => h) (by rfl) ?_ hHeld ?_
      rotate_left
      · (intro w hSw; (try dsimp only at hSw); go_simp; try with_reducible rfl)
      try simp only [Act.put, List.setIfInBounds_toArray, List.set_cons_zero, List.set_cons_succ]
      refine held_take 1 ?_ rfl (by kernel_rfl) (by kernel_rfl) (by kernel_rfl) (fun _ _ _ h => h) (by rfl) ?_ hHeld ?_
      rotate_left
      · (intro w hSw; (try dsimp only at hSw); go_simp; try with_reducible rfl)
      try simp only [Act.put, List.setIfInBounds_toArray, List.set_cons_zero, List.set_cons_succ]
      refine held_take 2 ?_ rfl (by kernel_rfl) (by kernel_rfl) (by kernel_rfl) (fun _ _ _ h => h) (by rfl) ?_ hHeld ?_
      rotate_left
      · (intro w hSw; (try dsimp only at hSw); go_simp; try with_reducible rfl)
      try simp only [Act.put, List.setIfInBounds_toArray, List.set_cons_zero, List.set_cons_succ]
      refine held_take 3 ?_ rfl (by kernel_rfl) (by kernel_rfl) (by kernel_rfl) (fun _ _ _ h => h) (by rfl) ?_ hHeld ?_
      rotate_left
      · (intro w hSw; (try dsimp only at hSw); go_simp; try with_reducible rfl)
      try simp only [Act.put, List.setIfInBounds_toArray, List.set_cons_zero, List.set_cons_succ]
      refine held_take 4 ?_ rfl (by kernel_rfl) (by kernel_rfl) (by kernel_rfl) (fun _ _ _ h => h) (by rfl) ?_ hHeld ?_
      rotate_left
      · (intro w hSw; (try dsimp only at hSw); go_simp; try with_reducible rfl)
      try simp only [Act.put, List.setIfInBounds_toArray, List.set_cons_zero, List.set_cons_succ]
      refine held_take 5 ?_ rfl (by kernel_rfl) (by kernel_rfl) (by kernel_rfl) (fun _ _ _ h => h) (by rfl) ?_ hHeld ?_
      rotate_left
      · (intro w hSw; (try dsimp only at hSw); go_simp; try with_reducible rfl)
      try simp only [Act.put, List.setIfInBounds_toArray, List.set_cons_zero, List.set_cons_succ]
      refine held_take 6 ?_ rfl (by kernel_rfl) (by kernel_rfl) (by kernel_rfl) (fun _ _ _ h => h) (by rfl) ?_ hHeld ?_
      rotate_left
      · (intro w hSw; (try dsimp only at hSw); go_simp; try with_reducible rfl)
      try simp only [Act.put, List.setIfInBounds_toArray, List.set_cons_zero, List.set_cons_succ]
      refine held_take 7 ?_ rfl (by kernel_rfl) (by kernel_rfl) (by kernel_rfl) (fun _ _ _ h => h) (by rfl) ?_ hHeld ?_
      rotate_left
      · (intro w hSw; (try dsimp only at hSw); go_simp; try with_reducible rfl)
      try simp only [Act.put, List.setIfInBounds_toArray, List.set_cons_zero, List.set_cons_succ]
      refine held_take 8 ?_ rfl (by kernel_rfl) (by kernel_rfl) (by kernel_rfl) (fun _ _ _ h => h) (by rfl) ?_ hHeld ?_
      rotate_left
      · (intro w hSw; (try dsimp only at hSw); go_simp; try with_reducible rfl)
      try simp only [Act.put, List.setIfInBounds_toArray, List.set_cons_zero, List.set_cons_succ]
      refine held_take 9 ?_ rfl (by kernel_rfl) (by kernel_rfl) (by kernel_rfl) (fun _ _ _ h => h) (by rfl) ?_ hHeld ?_
      rotate_left
      · (intro w hSw; (try dsimp only at hSw); go_simp; try with_reducible rfl)
      try simp only [Act.put, List.setIfInBounds_toArray, List.set_cons_zero, List.set_cons_succ]
      refine held_take 10 ?_ rfl (by kernel_rfl) (by kernel_rfl) (by kernel_rfl) (fun _ _ _ h => h) (by rfl) ?_ hHeld ?_
      rotate_left
      · (intro w hSw; (try dsimp only at hSw); go_simp; try with_reducible rfl)
      try simp only [Act.put, List.setIfInBounds_toArray, List.set_cons_zero, List.set_cons_succ]
      refine held_take 11 ?_ rfl (by kernel_rfl) (by kernel_rfl) (by kernel_rfl) (fun _ _ _ h => h) (by rfl) ?_ hHeld ?_
      rotate_left
      · (intro w hSw; (try dsimp only at hSw); go_simp; try with_reducible rfl)
      try simp only [Act.put, List.setIfInBounds_toArray, List.set_cons_zero, List.set_cons_succ]
      refine held_take 14 ?_ rfl (by kernel_rfl) (by kernel_rfl) (by kernel_rfl) (fun _ _ _ h => h) (by rfl) ?_ hHeld ?_
      rotate_left
      · (intro w hSw; (try dsimp only at hSw); go_simp; try with_reducible rfl)
      try simp only [Act.put, List.setIfInBounds_toArray, List.set_cons_zero, List.set_cons_succ]
      refine held_take 15 ?_ rfl (by kernel_rfl) (by kernel_rfl) (by kernel_rfl) (fun _ _ _ h => h) (by rfl) ?_ hHeld ?_
      rotate_left
      · (intro w hSw; (try dsimp only at hSw); go_simp; try with_reducible rfl)
      try simp only [Act.put, List.setIfInBounds_toArray, List.set_cons_zero, List.set_cons_succ]
      refine held_take 16 ?_ rfl (by kernel_rfl) (by kernel_rfl) (by kernel_rfl) (fun _ _ _ h => h) (by rfl) ?_ hHeld ?_
      rotate_left
      · (intro w hSw; (try dsimp only at hSw); go_simp; try with_reducible rfl)
      try simp only [Act.put, List.setIfInBounds_toArray, List.set_cons_zero, List.set_cons_succ]
      refine held_take 17 ?_ rfl (by kernel_rfl) (by kernel_rfl) (by kernel_rfl) (fun _ _ _ h => h) (by rfl) ?_ hHeld ?_
      rotate_left
      · (intro w hSw; (try dsimp only at hSw); go_simp; try with_reducible rfl)
      try simp only [Act.put, List.setIfInBounds_toArray, List.set_cons_zero, List.set_cons_succ]
      refine held_take 18 ?_ rfl (by kernel_rfl) (by kernel_rfl) (by kernel_rfl) (fun _ _ _ h => h) (by rfl) ?_ hHeld ?_
      rotate_left
      · (intro w hSw; (try dsimp only at hSw); go_simp; try with_reducible rfl)
      try simp only [Act.put, List.setIfInBounds_toArray, List.set_cons_zero, List.set_cons_succ]
      refine held_one 12 rfl (by kernel_rfl) (by rfl) (fun K hK => ?_)
      go_simp
      refine (record_any _ hS12.store).mono ?_
      rintro e w13 ⟨rfl, hb13⟩
      have hT13 := hT12.on hb13
      have hS13 := hS12.on hb13
      have hR13 := hR12.on hb13
      have hZ13 := (Eff.of_below (S := fun _ => False) hb13).blk hZ12 (fun h => h)
      refine hK.out _ _ ?_ (fun hHeld2 => ?_)
      · (try dsimp only); (first | exact ⟨hR12.st.cell 1, hR12.st.cell 2, hZ12.cell 1, hZ12.cell 2⟩ | exact ⟨hR13.st.cell 1, hR13.st.cell 2, hZ13.cell 1, hZ13.cell 2⟩ | exact ⟨hR14.st.cell 1, hR14.st.cell 2, hZ14.cell 1, hZ14.cell 2⟩ | exact ⟨hR15.st.cell 1, hR15.st.cell 2, hZ15.cell 1, hZ15.cell 2⟩ | exact ⟨hR16.st.cell 1, hR16.st.cell 2, hZ16.cell 1, hZ16.cell 2⟩)
      clear hK K hHeld
      have hHeld := hHeld2
      clear hHeld2
      try simp only [Act.put, List.setIfInBounds_toArray, List.set_cons_zero, List.set_cons_succ]
      refine held_take 13 ?_ rfl (by kernel_rfl) (by kernel_rfl) (by kernel_rfl) (fun _ _ _ h => h) (by rfl) ?_ hHeld ?_
      rotate_left
      · (intro w hSw; (try dsimp only at hSw); go_simp; try with_reducible rfl)
      try simp only [Act.put, List.setIfInBounds_toArray, List.set_cons_zero, List.set_cons_succ]
      refine held_take 19 ?_ rfl (by kernel_rfl) (by kernel_rfl) (by kernel_rfl) (fun _ _ _ h => h) (by rfl) ?_ hHeld ?_
      rotate_left
      · (intro w hSw; (try dsimp only at hSw); go_simp; try with_reducible rfl)
      try simp only [Act.put, List.setIfInBounds_toArray, List.set_cons_zero, List.set_cons_succ]
      refine held_take 20 ?_ rfl (by kernel_rfl) (by kernel_rfl) (by kernel_rfl) (fun _ _ _ h => h) (by rfl) ?_ hHeld ?_
      rotate_left
      · (intro w hSw; (try dsimp only at hSw); go_simp; try with_reducible rfl)
      try simp only [Act.put, List.setIfInBounds_toArray, List.set_cons_zero, List.set_cons_succ]
      refine held_take 21 ?_ rfl (by kernel_rfl) (by kernel_rfl) (by kernel_rfl) (fun _ _ _ h => h) (by rfl) ?_ hHeld ?_
      rotate_left
      · (intro w hSw; (try dsimp only at hSw); go_simp; try with_reducible rfl)
      try simp only [Act.put, List.setIfInBounds_toArray, List.set_cons_zero, List.set_cons_succ]
      refine held_take 22 ?_ rfl (by kernel_rfl) (by kernel_rfl) (by kernel_rfl) (fun _ _ _ h => h) (by rfl) ?_ hHeld ?_
      rotate_left
      · (intro w hSw; (try dsimp only at hSw); go_simp; try with_reducible rfl)
      try simp only [Act.put, List.setIfInBounds_toArray, List.set_cons_zero, List.set_cons_succ]
      refine held_take 25 ?_ rfl (by kernel_rfl) (by kernel_rfl) (by kernel_rfl) (fun _ _ _ h => h) (by rfl) ?_ hHeld ?_
      rotate_left
      · (intro w hSw; (try dsimp only at hSw); go_simp; try with_reducible rfl)
      try simp only [Act.put, List.setIfInBounds_toArray, List.set_cons_zero, List.set_cons_succ]
      refine held_take 26 ?_ rfl (by kernel_rfl) (by kernel_rfl) (by kernel_rfl) (fun _ _ _ h => h) (by rfl) ?_ hHeld ?_
      rotate_left
      · (intro w hSw; (try dsimp only at hSw); go_simp; try with_reducible rfl)
      try simp only [Act.put, List.setIfInBounds_toArray, List.set_cons_zero, List.set_cons_succ]
      refine held_take 27 ?_ rfl (by kernel_rfl) (by kernel_rfl) (by kernel_rfl) (fun _ _ _ h => h) (by rfl) ?_ hHeld ?_
      rotate_left
      · (intro w hSw; (try dsimp only at hSw); go_simp; try with_reducible rfl)
      try simp only [Act.put, List.setIfInBounds_toArray, List.set_cons_zero, List.set_cons_succ]
      refine held_take 28 ?_ rfl (by kernel_rfl) (by kernel_rfl) (by kernel_rfl) (fun _ _ _ h => h) (by rfl) ?_ hHeld ?_
      rotate_left
      · (intro w hSw; (try dsimp only at hSw); go_simp; try with_reducible rfl)
      try simp only [Act.put, List.setIfInBounds_toArray, List.set_cons_zero, List.set_cons_succ]
      refine held_take 29 ?_ rfl (by kernel_rfl) (by kernel_rfl) (by kernel_rfl) (fun _ _ _ h => h) (by rfl) ?_ hHeld ?_
      rotate_left
      · (intro w hSw; (try dsimp only at hSw); go_simp; try with_reducible rfl)
      try simp only [Act.put, List.setIfInBounds_toArray, List.set_cons_zero, List.set_cons_succ]
      refine held_one 23 rfl (by kernel_rfl) (by rfl) (fun K hK => ?_)
      go_simp
      refine (record_any _ hS13.store).mono ?_
      rintro e w14 ⟨rfl, hb14⟩
      have hT14 := hT13.on hb14
      have hS14 := hS13.on hb14
      have hR14 := hR13.on hb14
      have hZ14 := (Eff.of_below (S := fun _ => False) hb14).blk hZ13 (fun h => h)
      refine hK.out _ _ ?_ (fun hHeld2 => ?_)
      · (try dsimp only); (first | exact ⟨hR12.st.cell 1, hR12.st.cell 2, hZ12.cell 1, hZ12.cell 2⟩ | exact ⟨hR13.st.cell 1, hR13.st.cell 2, hZ13.cell 1, hZ13.cell 2⟩ | exact ⟨hR14.st.cell 1, hR14.st.cell 2, hZ14.cell 1, hZ14.cell 2⟩ | exact ⟨hR15.st.cell 1, hR15.st.cell 2, hZ15.cell 1, hZ15.cell 2⟩ | exact ⟨hR16.st.cell 1, hR16.st.cell 2, hZ16.cell 1, hZ16.cell 2⟩)
      clear hK K hHeld
      have hHeld := hHeld2
      clear hHeld2
      try simp only [Act.put, List.setIfInBounds_toArray, List.set_cons_zero, List.set_cons_succ]
      refine held_take 24 ?_ rfl (by kernel_rfl) (by kernel_rfl) (by kernel_rfl) (fun _ _ _ h => h) (by rfl) ?_ hHeld ?_
      rotate_left
      · (intro w hSw; (try dsimp only at hSw); go_simp; try with_reducible rfl)
      try simp only [Act.put, List.setIfInBounds_toArray, List.set_cons_zero, List.set_cons_succ]
      refine held_take 30 ?_ rfl (by kernel_rfl) (by kernel_rfl) (by kernel_rfl) (fun _ _ _ h => h) (by rfl) ?_ hHeld ?_
      rotate_left
      · (intro w hSw; (try dsimp only at hSw); go_simp; try with_reducible rfl)
      try simp only [Act.put, List.setIfInBounds_toArray, List.set_cons_zero, List.set_cons_succ]
      refine held_take 31 ?_ rfl (by kernel_rfl) (by kernel_rfl) (by kernel_rfl) (fun _ _ _ h => h) (by rfl) ?_ hHeld ?_
      rotate_left
      · (intro w hSw; (try dsimp only at hSw); go_simp; try with_reducible rfl)
      try simp only [Act.put, List.setIfInBounds_toArray, List.set_cons_zero, List.set_cons_succ]
      refine held_take 32 ?_ rfl (by kernel_rfl) (by kernel_rfl) (by kernel_rfl) (fun _ _ _ h => h) (by rfl) ?_ hHeld ?_
      rotate_left
      · (intro w hSw; (try dsimp only at hSw); go_simp; try with_reducible rfl)
      try simp only [Act.put, List.setIfInBounds_toArray, List.set_cons_zero, List.set_cons_succ]
      refine held_take 33 ?_ rfl (by kernel_rfl) (by kernel_rfl) (by kernel_rfl) (fun _ _ _ h => h) (by rfl) ?_ hHeld ?_
      rotate_left
      · (intro w hSw; (try dsimp only at hSw); go_simp; try with_reducible rfl)
      try simp only [Act.put, List.setIfInBounds_toArray, List.set_cons_zero, List.set_cons_succ]
      refine held_take 36 ?_ rfl (by kernel_rfl) (by kernel_rfl) (by kernel_rfl) (fun _ _ _ h => h) (by rfl) ?_ hHeld ?_
      rotate_left
      · (intro w hSw; (try dsimp only at hSw); go_simp; try with_reducible rfl)
      try simp only [Act.put, List.setIfInBounds_toArray, List.set_cons_zero, List.set_cons_succ]
      refine held_take 37 ?_ rfl (by kernel_rfl) (by kernel_rfl) (by kernel_rfl) (fun _ _ _ h => h) (by rfl) ?_ hHeld ?_
      rotate_left
      · (intro w hSw; (try dsimp only at hSw); go_simp; try with_reducible rfl)
      try simp only [Act.put, List.setIfInBounds_toArray, List.set_cons_zero, List.set_cons_succ]
      refine held_take 38 ?_ rfl (by kernel_rfl) (by kernel_rfl) (by kernel_rfl) (fun _ _ _ h => h) (by rfl) ?_ hHeld ?_
      rotate_left
      · (intro w hSw; (try dsimp only at hSw); go_simp; try with_reducible rfl)
      try simp only [Act.put, List.setIfInBounds_toArray, List.set_cons_zero, List.set_cons_succ]
      refine held_take 39 ?_ rfl (by kernel_rfl) (by kernel_rfl) (by kernel_rfl) (fun _ _ _ h => h) (by rfl) ?_ hHeld ?_
      rotate_left
      · (intro w hSw; (try dsimp only at hSw); go_simp; try with_reducible rfl)
      try simp only [Act.put, List.setIfInBounds_toArray, List.set_cons_zero, List.set_cons_succ]
      refine held_take 40 ?_ rfl (by kernel_rfl) (by kernel_rfl) (by kernel_rfl) (fun _ _ _ h => h) (by rfl) ?_ hHeld ?_
      rotate_left
      · (intro w hSw; (try dsimp only at hSw); go_simp; try with_reducible rfl)
      try simp only [Act.put, List.setIfInBounds_toArray, List.set_cons_zero, List.set_cons_succ]
      refine held_one 34 rfl (by kernel_rfl) (by rfl) (fun K hK => ?_)
      go_simp
      refine (record_any _ hT14.store).mono ?_
      rintro e w15 ⟨rfl, hb15⟩
      have hT15 := hT14.on hb15
      have hS15 := hS14.on hb15
      have hR15 := hR14.on hb15
      have hZ15 := (Eff.of_below (S := fun _ => False) hb15).blk hZ14 (fun h => h)
      refine hK.out _ _ ?_ (fun hHeld2 => ?_)
      · (try dsimp only); (first | exact ⟨hR12.st.cell 1, hR12.st.cell 2, hZ12.cell 1, hZ12.cell 2⟩ | exact ⟨hR13.st.cell 1, hR13.st.cell 2, hZ13.cell 1, hZ13.cell 2⟩ | exact ⟨hR14.st.cell 1, hR14.st.cell 2, hZ14.cell 1, hZ14.cell 2⟩ | exact ⟨hR15.st.cell 1, hR15.st.cell 2, hZ15.cell 1, hZ15.cell 2⟩ | exact ⟨hR16.st.cell 1, hR16.st.cell 2, hZ16.cell 1, hZ16.cell 2⟩)
      clear hK K hHeld
      have hHeld := hHeld2
      clear hHeld2
      try simp only [Act.put, List.setIfInBounds_toArray, List.set_cons_zero, List.set_cons_succ]
      refine held_take 35 ?_ rfl (by kernel_rfl) (by kernel_rfl) (by kernel_rfl) (fun _ _ _ h => h) (by rfl) ?_ hHeld ?_
      rotate_left
      · (intro w hSw; (try dsimp only at hSw); go_simp; try with_reducible rfl)
      try simp only [Act.put, List.setIfInBounds_toArray, List.set_cons_zero, List.set_cons_succ]
      refine held_take 41 ?_ rfl (by kernel_rfl) (by kernel_rfl) (by kernel_rfl) (fun _ _ _ h => h) (by rfl) ?_ hHeld ?_
      rotate_left
      · (intro w hSw; (try dsimp only at hSw); go_simp; try with_reducible rfl)
      try simp only [Act.put, List.setIfInBounds_toArray, List.set_cons_zero, List.set_cons_succ]
      refine held_take 42 ?_ rfl (by kernel_rfl) (by kernel_rfl) (by kernel_rfl) (fun _ _ _ h => h) (by rfl) ?_ hHeld ?_
      rotate_left
      · (intro w hSw; (try dsimp only at hSw); go_simp; try with_reducible rfl)
      try simp only [Act.put, List.setIfInBounds_toArray, List.set_cons_zero, List.set_cons_succ]
      refine held_take 43 ?_ rfl (by kernel_rfl) (by kernel_rfl) (by kernel_rfl) (fun _ _ _ h => h) (by rfl) ?_ hHeld ?_
      rotate_left
      · (intro w hSw; (try dsimp only at hSw); go_simp; try with_reducible rfl)
      try simp only [Act.put, List.setIfInBounds_toArray, List.set_cons_zero, List.set_cons_succ]
      refine held_take 44 ?_ rfl (by kernel_rfl) (by kernel_rfl) (by kernel_rfl) (fun _ _ _ h => h) (by rfl) ?_ hHeld ?_
      rotate_left
      · (intro w hSw; (try dsimp only at hSw); go_simp; try with_reducible rfl)
      try simp only [Act.put, List.setIfInBounds_toArray, List.set_cons_zero, List.set_cons_succ]
      refine held_take 47 ?_ rfl (by kernel_rfl) (by kernel_rfl) (by kernel_rfl) (fun _ _ _ h => h) (by rfl) ?_ hHeld ?_
      rotate_left
      · (intro w hSw; (try dsimp only at hSw); go_simp; try with_reducible rfl)
      try simp only [Act.put, List.setIfInBounds_toArray, List.set_cons_zero, List.set_cons_succ]
      refine held_take 48 ?_ rfl (by kernel_rfl) (by kernel_rfl) (by kernel_rfl) (fun _ _ _ h => h) (by rfl) ?_ hHeld ?_
      rotate_left
      · (intro w hSw; (try dsimp only at hSw); go_simp; try with_reducible rfl)
      try simp only [Act.put, List.setIfInBounds_toArray, List.set_cons_zero, List.set_cons_succ]
      refine held_take 49 ?_ rfl (by kernel_rfl) (by kernel_rfl) (by kernel_rfl) (fun _ _ _ h => h) (by rfl) ?_ hHeld ?_
      rotate_left
      · (intro w hSw; (try dsimp only at hSw); go_simp; try with_reducible rfl)
      try simp only [Act.put, List.setIfInBounds_toArray, List.set_cons_zero, List.set_cons_succ]
      refine held_take 50 ?_ rfl (by kernel_rfl) (by kernel_rfl) (by kernel_rfl) (fun _ _ _ h => h) (by rfl) ?_ hHeld ?_
      rotate_left
      · (intro w hSw; (try dsimp only at hSw); go_simp; try with_reducible rfl)
      try simp only [Act.put, List.setIfInBounds_toArray, List.set_cons_zero, List.set_cons_succ]
      refine held_take 51 ?_ rfl (by kernel_rfl) (by kernel_rfl) (by kernel_rfl) (fun _ _ _ h => h) (by rfl) ?_ hHeld ?_
      rotate_left
      · (intro w hSw; (try dsimp only at hSw); go_simp; try with_reducible rfl)
      try simp only [Act.put, List.setIfInBounds_toArray, List.set_cons_zero, List.set_cons_succ]
      refine held_one 45 rfl (by kernel_rfl) (by rfl) (fun K hK => ?_)
      go_simp
      refine (record_any _ hT15.store).mono ?_
      rintro e w16 ⟨rfl, hb16⟩
      have hT16 := hT15.on hb16
      have hS16 := hS15.on hb16
      have hR16 := hR15.on hb16
      have hZ16 := (Eff.of_below (S := fun _ => False) hb16).blk hZ15 (fun h => h)
      refine hK.out _ _ ?_ (fun hHeld2 => ?_)
      · (try dsimp only); (first | exact ⟨hR12.st.cell 1, hR12.st.cell 2, hZ12.cell 1, hZ12.cell 2⟩ | exact ⟨hR13.st.cell 1, hR13.st.cell 2, hZ13.cell 1, hZ13.cell 2⟩ | exact ⟨hR14.st.cell 1, hR14.st.cell 2, hZ14.cell 1, hZ14.cell 2⟩ | exact ⟨hR15.st.cell 1, hR15.st.cell 2, hZ15.cell 1, hZ15.cell 2⟩ | exact ⟨hR16.st.cell 1, hR16.st.cell 2, hZ16.cell 1, hZ16.cell 2⟩)
      clear hK K hHeld
      have hHeld := hHeld2
      clear hHeld2
      try simp only [Act.put, List.setIfInBounds_toArray, List.set_cons_zero, List.set_cons_succ]
      refine held_take 46 ?_ rfl (by kernel_rfl) (by kernel_rfl) (by kernel_rfl) (fun _ _ _ h => h) (by rfl) ?_ hHeld ?_
      rotate_left
      · (intro w hSw; (try dsimp only at hSw); go_simp; try with_reducible rfl)
      try simp only [Act.put, List.setIfInBounds_toArray, List.set_cons_zero, List.set_cons_succ]
      refine held_take 52 ?_ rfl (by kernel_rfl) (by kernel_rfl) (by kernel_rfl) (fun _ _ _ h => h) (by rfl) ?_ hHeld ?_
      rotate_left
      · (intro w hSw; (try dsimp only at hSw); go_simp; try with_reducible rfl)
      try simp only [Act.put, List.setIfInBounds_toArray, List.set_cons_zero, List.set_cons_succ]
      refine held_take 53 ?_ rfl (by kernel_rfl) (by kernel_rfl) (by kernel_rfl) (fun _ _ _ h => h) (by rfl) ?_ hHeld ?_
      rotate_left
      · (intro w hSw; (try dsimp only at hSw); go_simp; try with_reducible rfl)
      try simp only [Act.put, List.setIfInBounds_toArray, List.set_cons_zero, List.set_cons_succ]
      refine wpAnyH_done (by kernel_rfl) ?_ _
      clear hHeld
      have HS16 := hid (And.intro hS16 hR16)
      clear hT12 hS12 hR12 hZ12 hT13 hS13 hR13 hZ13 hT14 hS14 hR14 hZ14 hT15 hS15 hR15 hZ15 hT16 hS16 hR16 hZ16 hb13 hb14 hb15 hb16
      go_wp2_with fail
      go_loopw [19] (fun i wr => InRel w b g s rb rg y c' ((x', y'), z') i wr) (fun i _ => 30 - (intOf i).toNat)
      case atStart => unfold InRel; exact ⟨0, by omega, rfl, HS16.out.1, HS16.out.2⟩
      case round =>
          clear HS16
          unfold InRel at hrel
          obtain ⟨m, hm, rfl, hS, hR⟩ := hrel
          by_cases hm30 : m < 30
          · have hg := get_any (m : Int) wr (hE.four.below hS.below) hS.cell
            rw [(get_up hS.up (show m < c'.bs.length by omega)).1, (get_up hS.up (show m < c'.bs.length by omega)).2, errV_zero] at hg
            obtain ⟨_, cap, cur, hbb, hgg, hcap, hcl, hcm, hcur⟩ := hR.ref
            have r0 : wr.cell? ⟨rb, 0, none⟩ = some (.slice (some ⟨rg, 0, none⟩) c'.bs.length cap) := hbb.cell 0
            have r1 : wr.cell? ⟨rg, m, none⟩ = some (.int .u8 (c'.bs.getD m 0)) := (hgg.cell m).trans (take_get hcur (by omega))
            rw [hl9] at r0
            generalize c'.bs.getD m 0 = v at *
            have hm' : (m : Int) < 30 := by omega
            clear hbb hgg hcap hcl hcm hcur
            go_wp2_with fail
            refine hg.mono ?_
            rintro e w' ⟨rfl, q1, rfl⟩
            have hbd := below_drewN (Below.refl wr.heap.size wr) q1
            have hS2 := hS.on hbd
            have hR2 := hR.on hbd
            clear hg hS hR hbd
            go_wp2_with fail
            go_roundw
            case rel => unfold InRel; exact ⟨m + 1, by omega, by go_num, hS2, hR2⟩
            case measure => simp [intOf]; omega
          · obtain rfl : m = 30 := by omega
            go_wp2_with fail
            go_roundw
            case rel => unfold PlRel; exact ⟨k + 1, by omega, by go_num, c', ((x', y'), z'), hS, hR, hf9, hl9, ho9, by omega⟩
            case measure => simp [intOf]; omega
    · go_wp2_with fail
      go_ret
      exact ⟨rfl, hS.below⟩
end Go.Proofs.YtmfdpjijpbgjbaaDoor
