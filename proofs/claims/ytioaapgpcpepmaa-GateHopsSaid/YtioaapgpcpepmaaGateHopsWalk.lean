/- GateHops: the walk: whatever numbers come, the Go text returns true. -/
import Derived.Test.YtioaapgpcpepmaaGateFirst
namespace Go.Proofs.Ytioaapgpcpepmaa
open Go.RowKit
set_option linter.unusedSimpArgs false

theorem row_ints : RowT Try.prog 29 3 (.int .i64 0) 1 8 := ⟨by kernel_rfl, by kernel_rfl, rfl, by decide⟩
theorem row_open {w : World} {B : Nat} {E : TypeId} {v : Value} {n : Nat} {xs : List Value} (h : w.ownsRow B E 1 v n xs) :
    ∃ A c, v = .slice A n c ∧ Sl w A xs ∧ (∀ a, A = some a → B ≤ a.block ∧ a.block < w.heap.size) := by
  obtain ⟨A, c, hv, _, _, hs⟩ := Sl.row h
  exact ⟨A, c, hv, hs, fun a ha => h.lt _ (by rw [hv, ha]; rfl)⟩

def upTo (k : Nat) : List Int := (List.range k).map Int.ofNat
theorem upTo_succ (k : Nat) : upTo (k + 1) = upTo k ++ [(k : Int)] := by simp [upTo, List.range_succ]
theorem upTo_len (k : Nat) : (upTo k).length = k := by simp [upTo]
theorem zero_upTo (k : Nat) : (0 : Int) ∈ upTo (k + 1) := by simp [upTo]

def HopInv (k : Nat) (g : Gt) (last : Int) : Prop := 0 ≤ last ∧ last < 30 ∧ ((k = 0 ∧ g = ⟨0, 0, 0, 0⟩ ∧ last = 0) ∨ (0 < k ∧ g = ⟨1, 1, last, 0⟩))
def MemRel (w : World) (n : Nat) (v i : Value) (wr : World) : Prop :=
  ∃ k : Nat, k ≤ n ∧ i = .int .i64 k ∧ wr.ownsRow w.heap.size 3 1 v k ((upTo k).map (Value.int .i64)) ∧ Below w.heap.size w wr
def HopsRel (w : World) (G n : Nat) (A : Option Addr) (ms : List Int) (l i : Value) (wr : World) : Prop :=
  ∃ (k : Nat) (g : Gt) (last : Int), k ≤ n ∧ i = .int .i64 k ∧ l = .int .i64 last ∧ HopInv k g last ∧ Blk wr G g.cells 54 ∧ Sl wr A (ms.map (Value.int .i64)) ∧ Below w.heap.size w wr

set_option maxRecDepth 100000 in
set_option maxHeartbeats 4000000 in
theorem gateHops_walk (A : Option Addr) (c : Nat) (xs : List Int) (members : Int) (w : World) (hx : Sl w A (xs.map (Value.int .i64))) (hxl : xs.length ≤ 9223372036854775807) :
    Calls Try.prog 4 #[.slice A xs.length c, .int .i64 members] w (SaysTrue w) := by
  by_cases hn : xs.length ≤ 40
  · have hnum := number_any members 5 (by omega) (by omega)
    have hm0 := Int.emod_nonneg members (show (5 : Int) ≠ 0 by omega)
    have hm1 := Int.emod_lt_of_pos members (show (0 : Int) < 5 by omega)
    obtain ⟨mm, hmm⟩ := Int.eq_ofNat_of_zero_le hm0
    rw [hmm] at hnum hm1
    have HNUM := hid hnum
    clear hnum hm0 hmm
    go_enter Try.func4, Try.ntmps4
    go_wp2_with fail
    refine (first_any _).mono ?_
    rintro e w1 ⟨rfl, hB1⟩
    go_wp2
    go_loopw [6, 7] (fun v i wr => MemRel w1 (mm + 1) v i wr) (fun _ i _ => mm + 1 - (intOf i).toNat)
    case atStart => exact ⟨0, by omega, rfl, World.ownsRow_nil _ _ _ _, Below.refl _ _⟩
    case round =>
      obtain ⟨k, hk, rfl, hown, hbl⟩ := hrel
      go_wp2_with fail
      refine (HNUM.out _).mono ?_
      rintro e w' ⟨rfl, rfl⟩
      by_cases hlt : k < mm + 1
      · have HU := hid (upTo_succ k)
        go_wp2_with (at_builtin; refine wpList_append_new row_ints rfl _ _ rfl w1.heap.size _ _ _ rfl hown 1 [.int .i64 k] _ rfl rfl rfl rfl (by unfold maxLen; omega) (by omega) hbl.size rfl ?_; intro v' w' hown' hgrow)
        have hbl' := hbl.grown hgrow hbl.size (fun j hj => (hown.lt j hj).1)
        clear hgrow hown
        go_wp2
        go_roundw
        case rel => exact ⟨k + 1, by omega, by go_num, by rw [HU.out]; simpa using hown', hbl'⟩
        case measure => simp [intOf]; omega
      · have hke : k = mm + 1 := by omega
        subst hke
        obtain ⟨Am, cm, rfl, hsm, hmb⟩ := row_open hown
        have hB2 := hB1.trans (hbl.mono hB1.size)
        have h0m := zero_upTo mm
        have hul := upTo_len (mm + 1)
        generalize upTo (mm + 1) = ms at *
        have hle : ¬ ((mm + 1 : Nat) : Int) ≤ (mm : Int) := by omega
        have hw1 := hB1.size
        have hml : ms.length ≤ 9223372036854775807 := by omega
        rw [← hul]
        have hle2 : ¬ ((ms.length : Nat) : Int) ≤ (mm : Int) := by omega
        have HUL := hid hul
        clear hown hbl hul hle
        go_wp2_with fail
        refine (gateNew_any 0 _).mono ?_
        rintro e w3 ⟨rfl, hG3, hb3, _⟩
        have hs3 := hsm.eff (Eff.of_below (S := fun _ => False) hb3) (fun _ _ h => h)
        have hAG : ∀ a, Am = some a → a.block < wr.heap.size := fun a ha => (hmb a ha).2
        have hwG := hB2.size
        have hB3 := hB2.trans (hb3.mono hB2.size)
        generalize wr.heap.size = G at *
        clear hsm hmb hB2 hb3 hB1 hle2 HNUM hlt
        go_wp2
        go_loopw [9, 10] (fun l i wr => HopsRel w G xs.length Am ms l i wr) (fun _ i _ => xs.length - (intOf i).toNat)
        case atStart => exact ⟨0, ⟨0, 0, 0, 0⟩, 0, by omega, rfl, rfl, ⟨by decide, by decide, .inl ⟨rfl, rfl, rfl⟩⟩, hG3, hs3, hB3⟩
        case round =>
          clear hG3 hs3 hB3
          obtain ⟨k, g, last, hk, rfl, rfl, ⟨hl0, hl1, hcase⟩, hG, hsm, hBl⟩ := hrel
          by_cases hlt : k < xs.length
          · obtain ⟨b, o, rfl, hbw, hc⟩ := hx.at (by simp; omega)
            have hcell : wr.cell? ⟨b, o + k, none⟩ = some (.int .i64 (xs.getD k 0)) := by rw [hBl.cell (p := ⟨b, o + k, none⟩) hbw, hc k (by simpa using hlt), getD_int hlt]
            clear hc
            obtain ⟨x, ex⟩ : ∃ x, xs.getD k 0 = x := ⟨_, rfl⟩
            rw [ex] at hcell
            clear ex
            go_wp2_with fail
            refine (number_rng _ _ (by omega) (by omega) _).mono ?_
            rintro e w' ⟨hop, hh0, hh1, rfl, rfl⟩
            go_wp2_with fail
            clear hcell
            have hGl := hG.lt
            have hwz := hBl.size
            have hG4 := hG.alloc (.cells #[.int .i64 1, .int .i64 1, .int .i64 hop, .slice Am ms.length cm, .slice none 0 0] 32)
            have hs4 := hsm.eff ((Eff.refl (fun _ => False) wr).alloc (.cells #[.int .i64 1, .int .i64 1, .int .i64 hop, .slice Am ms.length cm, .slice none 0 0] 32)) (fun _ _ h => h)
            have hB4 := hBl.alloc hBl.size (.cells #[.int .i64 1, .int .i64 1, .int .i64 hop, .slice Am ms.length cm, .slice none 0 0] 32)
            have htk := take_any g 0 0 ⟨1, 1, hop, Am, ms, cm, none, 0, 0⟩ _ hG4 hs4 hml
            rcases hcase with ⟨rfl, rfl, rfl⟩ | ⟨hkp, rfl⟩
            · have h1 : Gt.would ⟨0, 0, 0, 0⟩ 0 0 ⟨1, 1, hop, Am, ms, cm, none, 0, 0⟩ = true := by simp [Gt.would, Gt.aboveB, validE, Gt.newer, lessE, h0m]
              have h2 : Gt.take ⟨0, 0, 0, 0⟩ 0 0 ⟨1, 1, hop, Am, ms, cm, none, 0, 0⟩ = ⟨1, 1, hop, 0⟩ := by rw [Gt.take, h1]; rfl
              rw [h1, h2] at htk
              have htk2 : Calls Try.prog 11 _ _ (TakesTo _ G ⟨1, 1, hop, 0⟩ 54 Gt.cells true true) := htk
              refine htk2.mono ?_
              rintro e w5 ⟨rfl, hG5, hE5⟩
              have hs5 := hs4.eff hE5 (fun a ha he => by have := hAG a ha; omega)
              have hB5 := hE5.below hB4 hB4.size (fun i hi => by omega)
              clear htk htk2 h1 h2 hE5 hG4 hB4 hs4 hG hsm hBl
              go_wp2_with fail
              refine (gateHop_any _ _ hG5).mono ?_
              rintro e w' ⟨rfl, rfl⟩
              have hbb : (hop == hop) = true := by simp
              go_wp2
              go_roundw
              case rel => exact ⟨1, _, hop, by omega, by go_num, rfl, ⟨hh0, hh1, .inr ⟨by omega, rfl⟩⟩, hG5, hs5, hB5⟩
              case measure => simp [intOf]; omega
            · have hks : ((k : Int) == 0) = false := by simp; omega
              by_cases hlh : last < hop
              · have h1 : Gt.would ⟨1, 1, last, 0⟩ 0 0 ⟨1, 1, hop, Am, ms, cm, none, 0, 0⟩ = true := by simp [Gt.would, Gt.aboveB, validE, Gt.newer, lessE, sameE, h0m, hlh]
                have h2 : Gt.take ⟨1, 1, last, 0⟩ 0 0 ⟨1, 1, hop, Am, ms, cm, none, 0, 0⟩ = ⟨1, 1, hop, 0⟩ := by rw [Gt.take, h1]; rfl
                rw [h1, h2] at htk
                have htk2 : Calls Try.prog 11 _ _ (TakesTo _ G ⟨1, 1, hop, 0⟩ 54 Gt.cells true false) := htk
                refine htk2.mono ?_
                rintro e w5 ⟨rfl, hG5, hE5⟩
                have hs5 := hs4.eff hE5 (fun a ha he => by have := hAG a ha; omega)
                have hB5 := hE5.below hB4 hB4.size (fun i hi => by omega)
                clear htk htk2 h1 h2 hE5 hG4 hB4 hs4 hG hsm hBl
                go_wp2_with fail
                refine (gateHop_any _ _ hG5).mono ?_
                rintro e w' ⟨rfl, rfl⟩
                obtain ⟨bb, hbb⟩ : ∃ bb : Bool, (hop == hop) = bb := ⟨_, rfl⟩
                cases bb
                all_goals
                  go_wp2
                  go_roundw
                  case rel => exact ⟨k + 1, _, hop, by omega, by go_num, rfl, ⟨hh0, hh1, .inr ⟨by omega, rfl⟩⟩, hG5, hs5, hB5⟩
                  case measure => simp [intOf]; omega
              · have h1 : Gt.would ⟨1, 1, last, 0⟩ 0 0 ⟨1, 1, hop, Am, ms, cm, none, 0, 0⟩ = false := by simp [Gt.would, Gt.aboveB, validE, Gt.newer, lessE, sameE, h0m]; omega
                have h2 : Gt.take ⟨1, 1, last, 0⟩ 0 0 ⟨1, 1, hop, Am, ms, cm, none, 0, 0⟩ = ⟨1, 1, last, 0⟩ := by rw [Gt.take, h1]; rfl
                rw [h1, h2] at htk
                have htk2 : Calls Try.prog 11 _ _ (TakesTo _ G ⟨1, 1, last, 0⟩ 54 Gt.cells false false) := htk
                refine htk2.mono ?_
                rintro e w5 ⟨rfl, hG5, hE5⟩
                have hs5 := hs4.eff hE5 (fun a ha he => by have := hAG a ha; omega)
                have hB5 := hE5.below hB4 hB4.size (fun i hi => by omega)
                clear htk htk2 h1 h2 hE5 hG4 hB4 hs4 hG hsm hBl
                go_wp2_with fail
                refine (gateHop_any _ _ hG5).mono ?_
                rintro e w' ⟨rfl, rfl⟩
                obtain ⟨bb, hbb⟩ : ∃ bb : Bool, (last == hop) = bb := ⟨_, rfl⟩
                cases bb
                all_goals
                  go_wp2
                  go_roundw
                  case rel => exact ⟨k + 1, _, last, by omega, by go_num, rfl, ⟨hl0, hl1, .inr ⟨by omega, rfl⟩⟩, hG5, hs5, hB5⟩
                  case measure => simp [intOf]; omega
          · go_wp2_with fail
            have hGl := hG.lt
            have hwz := hBl.size
            have hG4 := hG.alloc (.cells #[.int .i64 1, .int .i64 2, .int .i64 0, .slice Am ms.length cm, .slice none 0 0] 32)
            have hs4 := hsm.eff ((Eff.refl (fun _ => False) wr).alloc (.cells #[.int .i64 1, .int .i64 2, .int .i64 0, .slice Am ms.length cm, .slice none 0 0] 32)) (fun _ _ h => h)
            have hB4 := hBl.alloc hBl.size (.cells #[.int .i64 1, .int .i64 2, .int .i64 0, .slice Am ms.length cm, .slice none 0 0] 32)
            have hR4 : Blk (wr.alloc (.cells #[.int .i64 1, .int .i64 2, .int .i64 0, .slice Am ms.length cm, .slice none 0 0] 32)) wr.heap.size [.int .i64 1, .int .i64 2, .int .i64 0, .slice Am ms.length cm, .slice none 0 0] 32 := Blk.new wr _ _
            have htk := take_any g 0 0 ⟨1, 2, 0, Am, ms, cm, none, 0, 0⟩ _ hG4 hs4 hml
            have h1 : g.would 0 0 ⟨1, 2, 0, Am, ms, cm, none, 0, 0⟩ = true := by
              rcases hcase with ⟨_, rfl, rfl⟩ | ⟨_, rfl⟩ <;> simp [Gt.would, Gt.aboveB, validE, Gt.newer, lessE, h0m]
            have h2 : g.take 0 0 ⟨1, 2, 0, Am, ms, cm, none, 0, 0⟩ = ⟨1, 2, 0, 0⟩ := by
              rw [Gt.take, h1]
              rcases hcase with ⟨_, rfl, rfl⟩ | ⟨_, rfl⟩ <;> rfl
            have h3 : sameE g.c g.f 1 2 = false := by
              rcases hcase with ⟨_, rfl, rfl⟩ | ⟨_, rfl⟩ <;> rfl
            rw [h1, h2] at htk
            simp only [h3] at htk
            have htk2 : Calls Try.prog 11 _ (wr.alloc (.cells #[.int .i64 1, .int .i64 2, .int .i64 0, .slice Am ms.length cm, .slice none 0 0] 32)) (TakesTo _ G ⟨1, 2, 0, 0⟩ 54 Gt.cells true true) := htk
            refine htk2.mono ?_
            rintro e w5 ⟨rfl, hG5, hE5⟩
            have hs5 := hs4.eff hE5 (fun a ha he => by have := hAG a ha; omega)
            have hR5 := hE5.blk hR4 (by omega)
            have hB5 := hE5.below hB4 hB4.size (fun i hi => by omega)
            generalize wr.heap.size = R at *
            clear htk htk2 h1 h2 h3 hE5 hG4 hB4 hs4 hG hsm hBl hcase hR4
            go_wp2_with fail
            refine (gateHop_any _ _ hG5).mono ?_
            rintro e w' ⟨rfl, rfl⟩
            have a0 : w5.cell? ⟨R, 0, none⟩ = some (.int .i64 1) := hR5.cell 0
            have a1 : w5.cell? ⟨R, 1, none⟩ = some (.int .i64 2) := hR5.cell 1
            have a2 : w5.cell? ⟨R, 2, none⟩ = some (.int .i64 0) := hR5.cell 2
            have a3 : w5.cell? ⟨R, 3, none⟩ = some (.slice Am ms.length cm) := hR5.cell 3
            have a4 : w5.cell? ⟨R, 4, none⟩ = some (.slice none 0 0) := hR5.cell 4
            go_wp2_with fail
            have h1 : Gt.would ⟨1, 2, 0, 0⟩ 0 0 ⟨1, 2, 0, Am, ms, cm, none, 0, 0⟩ = false := by simp [Gt.would, Gt.newer, lessE]
            have hwd := would_any ⟨1, 2, 0, 0⟩ 0 0 ⟨1, 2, 0, Am, ms, cm, none, 0, 0⟩ _ hG5 hs5 hml
            rw [h1] at hwd
            refine hwd.mono ?_
            rintro e w6 ⟨rfl, hb6⟩
            clear hwd h1 a0 a1 a2 a3 a4
            go_wp2
            go_ret
            exact ⟨rfl, hB5.trans (hb6.mono hB5.size)⟩
  · go_enter Try.func4, Try.ntmps4
    go_wp2_with fail
    refine (first_any _).mono ?_
    rintro e w1 ⟨rfl, hB1⟩
    go_wp2
    go_ret
    exact ⟨rfl, hB1⟩
end Go.Proofs.Ytioaapgpcpepmaa
