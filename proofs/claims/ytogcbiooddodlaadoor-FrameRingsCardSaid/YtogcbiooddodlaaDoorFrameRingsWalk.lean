/- FrameRings: the walk. -/
import Derived.Test.YtogcbiooddodlaaDoorFrameRingsPure
import Derived.Test.YtogcbiooddodlaaDoorFrameBeatsWalk
namespace Go.Proofs.YtogcbiooddodlaaDoor
open Go.RowKit
set_option linter.unusedSimpArgs false

def MemRel (W : World) (tr N : Nat) (i : Value) (wr : World) : Prop := ∃ (k : Nat) (v : Value), k ≤ N ∧ i = .int .i64 k ∧ Blk wr tr [.int .i64 3, .int .i64 1, .int .i64 4, v, .slice none 0 0] 53 ∧
  wr.ownsRow (tr + 1) 3 1 v (memN k).length ((memN k).map (Value.int .i64)) ∧ Below W.heap.size W wr
def EntRel (W w0 : World) (tr base N : Nat) (mV : Value) (i : Value) (wr : World) : Prop := ∃ (k : Nat) (v : Value) (es : List EntL), k ≤ N ∧ i = .int .i64 k ∧ es.map EntL.strip = entN k ∧
  Blk wr tr [.int .i64 3, .int .i64 1, .int .i64 4, mV, v] 53 ∧ EntS base wr v es ∧ Eff (· = tr) w0 wr ∧ Below W.heap.size W wr
def RingsMid (W : World) (fr : Nat) (v : Value) (wx : World) : Prop := ∃ (seen count : Int) (MA : Option Addr) (ms : List Int) (mc : Nat) (EA : Option Addr) (es : List EntL) (ec : Nat) (E : Int),
  Blk wx fr (frameL 2 0 2 0 seen false count 1 4 MA ms.length mc EA es.length ec) 64 ∧ RingIs wx MA ms EA es ∧ frameE 2 0 2 0 seen false count 1 4 ms es = E ∧ (E = 103 ∨ E = 104 ∨ E = 111) ∧ v = .int .i64 E ∧ Below W.heap.size W wx
attribute [irreducible] MemRel EntRel RingsMid
theorem sl_of_blk {w : World} {b : Nat} {cs : List Value} {E : TypeId} (h : Blk w b cs E) : Sl w (some ⟨b, 0, none⟩) cs := .inr ⟨b, 0, rfl, h.lt, fun k _ => by rw [Nat.zero_add]; exact h.cell k⟩
theorem RingIs.set {w : World} {MA EA : Option Addr} {ms : List Int} {es : List EntL} {fr : Nat} (h : RingIs w MA ms EA es) (hM : ∀ a, MA = some a → a.block ≠ fr) (hEA : ∀ a, EA = some a → a.block ≠ fr) (hb : ∀ e ∈ es, ∀ a, e.A = some a → a.block ≠ fr) (o : Nat) (v : Value) : RingIs (w.setCell ⟨fr, o, none⟩ v) MA ms EA es :=
  ⟨h.mem.eff ((Eff.one fr w).set o v) hM, h.ent.eff ((Eff.one fr w).set o v) hEA, fun e he => Sl.eff (h.bid e he) ((Eff.one fr w).set o v) (hb e he), h.lens⟩
theorem sl_new {w : World} {cs : List Value} {E : TypeId} {n : Nat} (h : n = w.heap.size) : Sl (w.alloc (.cells cs.toArray E)) (some ⟨n, 0, none⟩) cs := by subst h; exact sl_of_blk (Blk.new w cs E)
theorem mid_lit {W w7 wS wB : World} {fr g N mc ec n c : Nat} {MA EA : Option Addr} (es' : List EntL) {E : Int} (hF : Blk w7 fr (frameL 2 0 2 0 0 false 3 1 4 MA N mc EA N ec) 64) (hm : Sl w7 MA ((memN N).map (Value.int .i64))) (hM : ∀ a, MA = some a → a.block ≠ fr)
    (hn : es'.length = n) (hwS : wS = w7.setCell ⟨fr, 10, none⟩ (.slice (some ⟨g, 0, none⟩) n c)) (hb : Below wS.heap.size wS wB) (hB : Below W.heap.size W w7) (hW : W.heap.size ≤ fr)
    (hN : N ≤ 6) (hs : Sl wB (some ⟨g, 0, none⟩) (es'.flatMap EntL.cells)) (hbid : ∀ e ∈ es', e.here wB ∧ e.bids.length ≤ 2) (hl : es'.length ≤ 2) (hE : frameE 2 0 2 0 0 false 3 1 4 (memN N) es' = E) (hk : E = 103 ∨ E = 111) :
    RingsMid W fr (.int .i64 E) wB := by
  unfold RingsMid
  subst hwS hn
  have hFS := hF.set 10 (.slice (some ⟨g, 0, none⟩) es'.length c)
  have hFB := (Eff.of_below (S := fun _ => False) hb).blk hFS (fun h => h)
  have hmS := hm.eff ((Eff.one fr w7).set 10 (.slice (some ⟨g, 0, none⟩) es'.length c)) hM
  have hBS := hB.setCell (p := ⟨fr, 10, none⟩) (by simpa using hW) (.slice (some ⟨g, 0, none⟩) es'.length c)
  exact ⟨0, 3, MA, memN N, mc, some ⟨g, 0, none⟩, es', c, E, by rw [memN_len]; exact hFB, ⟨It2 hmS hb, hs, fun e he => (hbid e he).1, by rw [memN_len]; omega, by omega, fun e he => by have := (hbid e he).2; omega⟩, hE, by omega, rfl, hBS.trans (hb.mono hBS.size)⟩
set_option maxRecDepth 100000 in
set_option maxHeartbeats 8000000 in
theorem frameRings_walk {ad : Int → Addr} (a0 a1 : Int) (w : World) (hE : Errs ad w) : Calls Tryd.prog 9 #[.int .i64 a0, .int .i64 a1] w (SaysTrue w) := by
  obtain ⟨j, hj, hj1⟩ := mod_nat a0 10 (by omega)
  obtain ⟨m, hm, hm1⟩ := mod_nat a1 5 (by omega)
  have nj : ∀ w, _ := fun w => number_any a0 10 (by omega) (by omega) w
  have nm : ∀ w, _ := fun w => number_any a1 5 (by omega) (by omega) w
  rw [hj] at nj
  rw [hm] at nm
  clear hj hm
  go_enter Tryd.func9, Tryd.ntmps9
  go_wp2_with fail
  refine (first5_any w hE.three).mono ?_
  rintro e w1 ⟨rfl, hB1⟩
  go_wp2_with fail
  refine (nm _).mono ?_
  rintro e w' ⟨rfl, rfl⟩
  clear nm
  obtain ⟨N, hN⟩ : ∃ N : Nat, (m : Int) + 2 = N := ⟨m + 2, by omega⟩
  have hN2 : 2 ≤ N ∧ N ≤ 6 := by omega
  have HE := hid hE
  have HNJ := hid nj
  clear hE nj
  go_upto_region 5 with (fail)
  clear hN hm1
  have hx2 : Blk (w1.alloc (.cells #[.int .i64 3, .int .i64 1, .int .i64 4, .slice none 0 0, .slice none 0 0] 53)) w1.heap.size [.int .i64 3, .int .i64 1, .int .i64 4, .slice none 0 0, .slice none 0 0] 53 := Blk.new w1 _ _
  have hB2 : Below w.heap.size w (w1.alloc (.cells #[.int .i64 3, .int .i64 1, .int .i64 4, .slice none 0 0, .slice none 0 0] 53)) := hB1.alloc hB1.size _
  have hW1 := hB1.size
  go_wp2_with fail
  generalize w1.alloc (.cells #[.int .i64 3, .int .i64 1, .int .i64 4, .slice none 0 0, .slice none 0 0] 53) = w2 at *
  generalize w1.heap.size = tr at *
  go_loopw [7] (fun i wr => MemRel w tr N i wr) (fun i _ => N - (intOf i).toNat)
  case atStart => unfold MemRel; exact ⟨0, .slice none 0 0, by omega, rfl, hx2, World.ownsRow_nil _ _ _ _, hB2⟩
  case round =>
  clear hx2 hB2 hB1
  unfold MemRel at hrel
  obtain ⟨k, v, hk, rfl, hx, hown, hB⟩ := hrel
  by_cases hlt : k < N
  case pos =>
    have r3 : wr.cell? ⟨tr, 3, none⟩ = some v := hx.cell 3
    have HO := hid (And.intro hown (And.intro hx hB))
    have hlk : (memN k).length ≤ 2000000 := by rw [memN_len]; omega
    have HS := hid (memN_succ k)
    have htr : tr + 1 ≤ wr.heap.size := hx.lt
    clear hown hx hB
    have hlt' : (k : Int) < N := by omega
    go_wp2_with (at_builtin; refine wpList_append_int rfl _ _ rfl rfl HO.out.1 (2 * (k : Int)) wr.heap.size rfl rfl rfl hlk htr ?_; intro v5 w5 hown5 he5; rw [← HS.out] at hown5; have hx5 := he5.blk HO.out.2.1 (fun h => by have := (HO.out.1.lt _ h).1; omega); have hf5 := hx5.frozen 3; have hg5 : w5.cell? ⟨tr, 3, none⟩ = some v := hx5.cell 3; have HB5 : Hid (Below w.heap.size w w5) := he5.below HO.out.2.2 HO.out.2.2.size (fun g hg h => by have := (HO.out.1.lt _ h).1; omega); have HX5 := hid hx5; obtain ⟨A5, c5, rfl, _, _, _⟩ := Sl.row hown5; have HO5 := hid hown5; clear hx5 hown5)
    go_roundw
    case rel =>
      unfold MemRel
      exact ⟨k + 1, _, by omega, by go_num, HX5.out.set 3 _, ((Eff.one tr w5).set 3 _).row HO5.out (fun q hq h => by have := (HO5.out.lt _ hq).1; omega), HB5.out.setCell (by simpa using hW1) _⟩
    case measure => simp [intOf]; omega
  case neg =>
  obtain rfl : N = k := by omega
  clear hlt hk
  obtain ⟨MA, mc, rfl, _, _, hsm⟩ := Sl.row hown
  rw [memN_len] at hx hown
  have hMA : ∀ a, MA = some a → a.block ≠ tr ∧ a.block < wr.heap.size := fun a ha => by
    have := hown.lt a.block (by rw [ha]; rfl)
    omega
  have htl := hx.lt
  have HM := hid (And.intro hsm hMA)
  clear hsm hMA hown
  go_wp2_with fail
  obtain ⟨w3, e3⟩ : ∃ w3, w3 = wr := ⟨_, rfl⟩
  subst e3
  go_loopw [8] (fun i wr => EntRel w w3 tr w3.heap.size N (.slice MA N mc) i wr) (fun i _ => N - (intOf i).toNat)
  case atStart => unfold EntRel; exact ⟨0, .slice none 0 0, [], by omega, rfl, rfl, hx, EntS.nil _ _, Eff.refl _ _, hB⟩
  case round =>
  clear hx hB
  unfold EntRel at hrel
  obtain ⟨k, v, es, hk, rfl, hes, hx, hS, he3, hB⟩ := hrel
  by_cases hlt : k < N
  case pos =>
    have r4 : wr.cell? ⟨tr, 4, none⟩ = some v := hx.cell 4
    have hlk : es.length ≤ 100000 := by rw [entN_len hes]; omega
    have hlt' : (k : Int) < N := by omega
    have hb4 : Below wr.heap.size wr (wr.alloc (.cells #[.int .i64 0, .int .i64 k, .int .i64 2, .int .i64 5] 59)) := (Below.refl _ _).alloc (Nat.le_refl _) _
    have hS4 : EntS w3.heap.size (wr.alloc (.cells #[.int .i64 0, .int .i64 k, .int .i64 2, .int .i64 5] 59)) v es := hS.eff (Eff.of_below (S := fun _ => False) hb4) (fun _ _ h => h)
    have hx4 : Blk (wr.alloc (.cells #[.int .i64 0, .int .i64 k, .int .i64 2, .int .i64 5] 59)) tr [.int .i64 3, .int .i64 1, .int .i64 4, .slice MA N mc, v] 53 := (Eff.of_below (S := fun _ => False) hb4).blk hx (fun h => h)
    have hbid : Sl (wr.alloc (.cells #[.int .i64 0, .int .i64 k, .int .i64 2, .int .i64 5] 59)) (some ⟨wr.heap.size, 0, none⟩) ([(0, (k : Int)), (2, 5)].flatMap bidC) := sl_of_blk (Blk.new wr [.int .i64 0, .int .i64 k, .int .i64 2, .int .i64 5] 59)
    have he4 : Eff (· = tr) w3 (wr.alloc (.cells #[.int .i64 0, .int .i64 k, .int .i64 2, .int .i64 5] 59)) := he3.alloc _
    have hB4 := hB.trans (hb4.mono hB.size)
    have hs4 : (wr.alloc (.cells #[.int .i64 0, .int .i64 k, .int .i64 2, .int .i64 5] 59)).heap.size = wr.heap.size + 1 := by simp
    have hbo : ∀ a, (some (⟨wr.heap.size, 0, none⟩ : Addr)) = some a → w3.heap.size ≤ a.block ∧ a.block < (wr.alloc (.cells #[.int .i64 0, .int .i64 k, .int .i64 2, .int .i64 5] 59)).heap.size ∧ v.ownBlock ≠ some a.block := by
      intro a ha
      obtain rfl := Option.some.inj ha
      refine ⟨he3.size, by rw [hs4]; exact Nat.lt_succ_self _, fun h => ?_⟩
      have := (hS.row.lt _ h).2
      exact Nat.lt_irrefl _ this
    have HO := hid (And.intro hS4 (And.intro hx4 (And.intro hB4 (And.intro he4 (And.intro hbid hbo)))))
    have hbs : w3.heap.size ≤ (wr.alloc (.cells #[.int .i64 0, .int .i64 k, .int .i64 2, .int .i64 5] 59)).heap.size := he4.size
    have HES := hid (And.intro hes (And.intro hbs htl))
    clear hS4 hx4 hB4 hbid hbo hb4 hS hx hB hs4 he3 he4 hes hbs
    go_wp2_with (at_builtin; refine wpList_append_ent rfl _ _ rfl rfl HO.out.1 ⟨k, 1, 1, -1, [(0, (k : Int)), (2, 5)], some ⟨wr.heap.size, 0, none⟩, 2⟩ (wr.heap.size + 1) (by simp) rfl rfl hlk HES.out.2.1 HO.out.2.2.2.2.1 HO.out.2.2.2.2.2 ?_; intro A5 c5 w5 hS5 he5; have HX5 : Hid (Blk w5 tr [.int .i64 3, .int .i64 1, .int .i64 4, .slice MA N mc, v] 53) := he5.blk HO.out.2.1 (fun h => by have := (HO.out.1.row.lt _ h).1; have := HES.out.2.2; omega); have hf5 := HX5.out.frozen 4; have hg5 : w5.cell? ⟨tr, 4, none⟩ = some v := HX5.out.cell 4; have HB5 : Hid (Below w.heap.size w w5) := he5.below HO.out.2.2.1 HO.out.2.2.1.size (fun g hg h => by have := (HO.out.1.row.lt _ h).1; have := HES.out.2.2; omega); have HE5 : Hid (Eff (· = tr) w3 w5) := HO.out.2.2.2.1.step he5 (fun i hi h => by have := (HO.out.1.row.lt _ h).1; omega); have HS5 := hid hS5; clear hS5 he5)
    go_roundw
    case rel =>
      unfold EntRel
      refine ⟨k + 1, _, _, by omega, by go_num, ?_, HX5.out.set 4 _, HS5.out.eff ((Eff.one tr w5).set 4 _) (fun q hq h => by have := HES.out.2.2; omega), HE5.out.setCell (fun _ => rfl) _, HB5.out.setCell (by simpa using hW1) _⟩
      rw [List.map_append, HES.out.1, entN_succ]
      rfl
    case measure => simp [intOf]; omega
  case neg =>
  obtain rfl : N = k := by omega
  clear hlt hk
  obtain ⟨EA, ec, rfl, hse⟩ := hS.sl
  have hEA : ∀ a, EA = some a → w3.heap.size ≤ a.block ∧ a.block < wr.heap.size := fun a ha => hS.row.lt a.block (by rw [ha]; rfl)
  have hlen := entN_len hes
  rw [hlen] at hx
  have r0 : wr.cell? ⟨tr, 0, none⟩ = some (.int .i64 3) := hx.cell 0
  have r1 : wr.cell? ⟨tr, 1, none⟩ = some (.int .i64 1) := hx.cell 1
  have r2 : wr.cell? ⟨tr, 2, none⟩ = some (.int .i64 4) := hx.cell 2
  have r3 : wr.cell? ⟨tr, 3, none⟩ = some (.slice MA N mc) := hx.cell 3
  have r4 : wr.cell? ⟨tr, 4, none⟩ = some (.slice EA N ec) := hx.cell 4
  have hsm : Sl wr MA ((memN N).map (Value.int .i64)) := HM.out.1.eff he3 (fun a ha => (HM.out.2 a ha).1)
  have hR : RingIs wr MA (memN N) EA es := ⟨hsm, hse, hS.here, by rw [memN_len]; omega, by omega, fun e he => by
    obtain ⟨q, hq⟩ := List.getElem?_of_mem he
    have hqN : q < N := by have := (List.getElem?_eq_some_iff.1 hq).1; omega
    obtain ⟨A, c, h2⟩ := entN_at hes hqN
    rw [hq] at h2
    obtain rfl := Option.some.inj h2
    simp⟩
  have hoff : ∀ a, (MA = some a ∨ EA = some a ∨ ∃ e ∈ es, e.A = some a) → a.block < wr.heap.size := by
    rintro a (h | h | ⟨e, he, h⟩)
    · exact Nat.lt_of_lt_of_le (HM.out.2 a h).2 he3.size
    · exact (hEA a h).2
    · exact (hS.off e he a h).2.1
  have HR := hid (And.intro hR (And.intro hoff hes))
  have htw : tr < wr.heap.size := hx.lt
  clear hR hoff hsm hse hEA hS he3 hes hlen
  go_upto_region 15 with (fail)
  have hb6 : Below wr.heap.size wr (wr.alloc (.cells (frameV 2 0 2 0 0 false 3 1 4 MA N mc EA N ec) 64)) := (Below.refl _ _).alloc (Nat.le_refl _) _
  have hF6 : Blk (wr.alloc (.cells (frameV 2 0 2 0 0 false 3 1 4 MA N mc EA N ec) 64)) wr.heap.size (frameL 2 0 2 0 0 false 3 1 4 MA N mc EA N ec) 64 := Blk.new wr _ _
  have hx6 := (Eff.of_below (S := fun _ => False) hb6).blk hx (fun h => h)
  have hR6 := HR.out.1.on hb6
  have hB6 := hB.trans (hb6.mono hB.size)
  have hoff6 : ∀ a, (MA = some a ∨ EA = some a ∨ ∃ e ∈ es, e.A = some a) → a.block ≠ wr.heap.size := fun a h => Nat.ne_of_lt (HR.out.2.1 a h)
  have hne : tr ≠ wr.heap.size := Nat.ne_of_lt htw
  have HF := hid (And.intro hR6 (And.intro hoff6 (And.intro hF6 (And.intro hx6 (And.intro HR.out.2.2 hB6)))))
  have f0 : (wr.alloc (.cells (frameV 2 0 2 0 0 false 3 1 4 MA N mc EA N ec) 64)).cell? ⟨wr.heap.size, 0, none⟩ = some (.int .i64 2) := hF6.cell 0
  generalize wr.alloc (.cells (frameV 2 0 2 0 0 false 3 1 4 MA N mc EA N ec) 64) = w6 at *
  have hE6 := HE.out.below HF.out.2.2.2.2.2
  have hv := validF_any (ad := ad) 2 0 2 0 0 false 3 1 4 MA mc (memN N) EA ec es w6 hE6.valid HF.out.1
  rw [memN_len, entN_len HF.out.2.2.2.2.1, rings_ok hN2 HF.out.2.2.2.2.1, GivesErrB_zero] at hv
  have htw6 : tr < w6.heap.size := HF.out.2.2.2.1.lt
  have c0 : w6.cell? ⟨wr.heap.size, 0, none⟩ = some (.int .i64 2) := HF.out.2.2.1.cell 0
  have c1 : w6.cell? ⟨wr.heap.size, 1, none⟩ = some (.int .i64 0) := HF.out.2.2.1.cell 1
  have c2 : w6.cell? ⟨wr.heap.size, 2, none⟩ = some (.int .i64 2) := HF.out.2.2.1.cell 2
  have c3 : w6.cell? ⟨wr.heap.size, 3, none⟩ = some (.int .i64 0) := HF.out.2.2.1.cell 3
  have c4 : w6.cell? ⟨wr.heap.size, 4, none⟩ = some (.int .i64 0) := HF.out.2.2.1.cell 4
  have c5 : w6.cell? ⟨wr.heap.size, 5, none⟩ = some (.bool false) := HF.out.2.2.1.cell 5
  have c6 : w6.cell? ⟨wr.heap.size, 6, none⟩ = some (.int .i64 3) := HF.out.2.2.1.cell 6
  have c7 : w6.cell? ⟨wr.heap.size, 7, none⟩ = some (.int .i64 1) := HF.out.2.2.1.cell 7
  have c8 : w6.cell? ⟨wr.heap.size, 8, none⟩ = some (.int .i64 4) := HF.out.2.2.1.cell 8
  have c9 : w6.cell? ⟨wr.heap.size, 9, none⟩ = some (.slice MA N mc) := HF.out.2.2.1.cell 9
  have c10 : w6.cell? ⟨wr.heap.size, 10, none⟩ = some (.slice EA N ec) := HF.out.2.2.1.cell 10
  clear hb6 hF6 hx6 hR6 hB6 hoff6 f0 hE6 r0 r1 r2 r3 r4 hx hB
  go_wp2_with fail
  refine hv.mono ?_
  rintro e w7 ⟨rfl, hb7⟩
  have hx7 : Blk w7 tr (ringL 3 1 4 MA N mc EA N ec) 53 := (Eff.of_below (S := fun _ => False) hb7).blk HF.out.2.2.2.1 (fun h => h)
  have hF7 := (Eff.of_below (S := fun _ => False) hb7).blk HF.out.2.2.1 (fun h => h)
  have hB7 := HF.out.2.2.2.2.2.trans (hb7.mono HF.out.2.2.2.2.2.size)
  have hR7 := HF.out.1.on hb7
  have r3 : w7.cell? ⟨tr, 3, none⟩ = some (.slice MA N mc) := hx7.cell 3
  have r4 : w7.cell? ⟨tr, 4, none⟩ = some (.slice EA N ec) := hx7.cell 4
  have hff : ∀ o, w7.frozen? ⟨wr.heap.size, o, none⟩ = false := hF7.frozen
  have f4 : w7.cell? ⟨wr.heap.size, 4, none⟩ = some (.int .i64 0) := hF7.cell 4
  have f6 : w7.cell? ⟨wr.heap.size, 6, none⟩ = some (.int .i64 3) := hF7.cell 6
  have f9 : w7.cell? ⟨wr.heap.size, 9, none⟩ = some (.slice MA N mc) := hF7.cell 9
  have f10 : w7.cell? ⟨wr.heap.size, 10, none⟩ = some (.slice EA N ec) := hF7.cell 10
  have hl7 := hF7.lt
  have hlr7 := hx7.lt
  have HG := hid (And.intro hF7 (And.intro hR7 (And.intro HF.out.2.1 (And.intro HF.out.2.2.2.2.1 hB7))))
  clear hv c0 c1 c2 c3 c4 c5 c6 c7 c8 c9 c10 hb7 hx7 hF7 hB7 hR7 HF HR HM htw6
  have hWfr : w.heap.size ≤ wr.heap.size := Nat.le_trans hW1 (Nat.le_of_lt htw)
  generalize wr.heap.size = fr at *
  go_upto_region 18 with (fail)
  go_wp2_with (fail)
  refine (HNJ.out _).mono ?_
  rintro e w' ⟨rfl, rfl⟩
  go_upto_block 4 with (fail)
  go_cut [10] (fun v wx => RingsMid w fr v wx)
  case first =>
    --<
    have hMA : ∀ a, MA = some a → a.block ≠ fr := fun a h => HG.out.2.2.1 a (.inl h)
    have hEA : ∀ a, EA = some a → a.block ≠ fr := fun a h => HG.out.2.2.1 a (.inr (.inl h))
    have hbd : ∀ e ∈ es, ∀ a, e.A = some a → a.block ≠ fr := fun e he a h => HG.out.2.2.1 a (.inr (.inr ⟨e, he, h⟩))
    have hWf : w.heap.size ≤ fr := hWfr
    obtain ⟨A0, k0, he0⟩ := entN_at HG.out.2.2.2.1 (show 0 < N by omega)
    obtain ⟨A1, k1, he1⟩ := entN_at HG.out.2.2.2.1 (show 1 < N by omega)
    obtain ⟨b0, o0, hb0, hbw, hcx⟩ := HG.out.2.1.ent.at (by rw [flat_length EntL.len, entN_len HG.out.2.2.2.1]; omega)
    have d0 : w7.cell? ⟨b0, o0, none⟩ = some (.int .i64 0) := ent_cell hcx he0 (j := 0) (by omega)
    have d1 : w7.cell? ⟨b0, o0 + 1, none⟩ = some (.int .i64 1) := ent_cell hcx he0 (j := 1) (by omega)
    have d2 : w7.cell? ⟨b0, o0 + 2, none⟩ = some (.int .i64 1) := ent_cell hcx he0 (j := 2) (by omega)
    have d3 : w7.cell? ⟨b0, o0 + 3, none⟩ = some (.slice A0 2 k0) := ent_cell hcx he0 (j := 3) (by omega)
    have d4 : w7.cell? ⟨b0, o0 + 4, none⟩ = some (.int .i64 (-1)) := ent_cell hcx he0 (j := 4) (by omega)
    have d5 : w7.cell? ⟨b0, o0 + 5, none⟩ = some (.int .i64 1) := ent_cell hcx he1 (j := 0) (by omega)
    have d6 : w7.cell? ⟨b0, o0 + 6, none⟩ = some (.int .i64 1) := ent_cell hcx he1 (j := 1) (by omega)
    have d7 : w7.cell? ⟨b0, o0 + 7, none⟩ = some (.int .i64 1) := ent_cell hcx he1 (j := 2) (by omega)
    have d8 : w7.cell? ⟨b0, o0 + 8, none⟩ = some (.slice A1 2 k1) := ent_cell hcx he1 (j := 3) (by omega)
    have d9 : w7.cell? ⟨b0, o0 + 9, none⟩ = some (.int .i64 (-1)) := ent_cell hcx he1 (j := 4) (by omega)
    have HC := hid hcx
    have HH := hid (And.intro (And.intro he0 he1) (And.intro hMA (And.intro hEA hbd)))
    clear hcx he0 he1 hMA hEA hbd
    have hN0 : (0 : Int) < N := by omega
    have hN1 : (1 : Int) < N := by omega
    have h10 : j = 0 ∨ j = 1 ∨ j = 2 ∨ j = 3 ∨ j = 4 ∨ j = 5 ∨ j = 6 ∨ j = 7 ∨ j = 8 ∨ j = 9 := by omega
    clear hj1 HNJ
    rcases h10 with rfl | rfl | rfl | rfl | rfl | rfl | rfl | rfl | rfl | rfl
    case inl =>
      obtain ⟨bm, om, hbm, hbmw, hcm⟩ := HG.out.2.1.mem.at (by rw [List.length_map, memN_len]; omega)
      subst hbm hb0
      clear d0 d1 d2 d3 d4 d5 d6 d7 d8 d9
      have hnews : ∀ (j : Nat) (u : Value), ((memN N).map (Value.int .i64))[j]? = some u → (w7.alloc (.cells #[.int .i64 4] 3)).cell? ((⟨bm, om, none⟩ : Addr).add j) = some u := by
        intro j u hu
        have hj : j < ((memN N).map (Value.int .i64)).length := (List.getElem?_eq_some_iff.1 hu).1
        rw [add_at]
        exact (World.cell?_alloc_lt _ _ _ hbmw).trans ((hcm j hj).trans hu)
      have HL := hid (And.intro hnews (And.intro (show N + 1 ≤ 7 by omega) (show ((memN N).map (Value.int .i64)).length = N * 1 by simp [memN_len])))
      clear hnews hcm
      go_wp2_with (at_builtin; obtain ⟨ti, hi, hz, hsz, hby⟩ := info_parts rowInts15.info; refine wpList_append_own _ rfl _ _ 46 rfl w7.heap.size 3 ti (.int .i64 0) 1 8 Tryd.underlying46 hi hz hsz hby rfl (by decide) (.slice (some ⟨w7.heap.size, 0, none⟩) 1 1) 1 [.int .i64 4] rfl (World.ownsRow_lit w7 #[.int .i64 4] 1 (Nat.le_refl _) (by decide) rfl) ⟨bm, om, none⟩ N mc ((memN N).map (Value.int .i64)) rfl HL.out.2.2 HL.out.1 (ints_oneCell .i64 (memN N)) (by have := HL.out.2.1; unfold maxLen; omega) (by have := HL.out.2.1; omega) (by simp) ?_; intro v5 w5 hown5 hg5 _; have HB5 : Hid (Below w7.heap.size w7 w5) := (((Eff.refl (fun k => k = w7.heap.size) w7).alloc _).grown hg5 (fun k hk _ => (Option.some.inj hk).symm)).below (Below.refl _ _) (Nat.le_refl _) (fun i hi h => by omega); have HX5 := hid ((Eff.of_below (S := fun _ => False) HB5.out).blk HG.out.1 (fun h => h)); have hf5 : w5.frozen? ⟨fr, 9, none⟩ = false := HX5.out.frozen 9; have hg9 : w5.cell? ⟨fr, 9, none⟩ = some (.slice (some ⟨bm, om, none⟩) N mc) := HX5.out.cell 9; obtain ⟨A5, c5, rfl, _, _, hs5⟩ := Sl.row hown5; have HS5 := hid (And.intro hs5 (hown5.lt)); clear hown5 hs5 hg5)
      go_meet
      unfold RingsMid
      have hA5 : ∀ a, A5 = some a → a.block ≠ fr := fun a h q => by
        have := (HS5.out.2 a.block (by rw [h]; rfl)).1
        omega
      refine ⟨0, 3, A5, [4] ++ memN N, c5, some ⟨b0, o0, none⟩, es, ec, 111, ?_, ⟨HS5.out.1.eff ((Eff.one fr w5).set 9 _) hA5, ?_, ?_, by rw [List.length_append, memN_len]; simp; omega, HG.out.2.1.lens.2⟩, rings_0 hN2 HG.out.2.2.2.1, by omega, rfl, (HG.out.2.2.2.2.trans (HB5.out.mono HG.out.2.2.2.2.size)).setCell (by simpa using hWf) _⟩
      · rw [List.length_append, memN_len, entN_len HG.out.2.2.2.1]; exact HX5.out.set 9 _
      · exact (It2 HG.out.2.1.ent HB5.out).eff ((Eff.one fr w5).set 9 _) HH.out.2.2.1
      · exact fun e he => Sl.eff (It2 (HG.out.2.1.bid e he) HB5.out) ((Eff.one fr w5).set 9 _) (HH.out.2.2.2 e he)
    case inr.inl =>
      subst hb0
      go_wp2_with fail
      go_region
      go_wp2_with fail
      go_meet
      have hb := ((Below.refl (w7.setCell ⟨fr, 10, none⟩ (.slice (some ⟨w7.heap.size, 0, none⟩) 2 2)).heap.size (w7.setCell ⟨fr, 10, none⟩ (.slice (some ⟨w7.heap.size, 0, none⟩) 2 2))).alloc (Nat.le_refl _) (.cells #[.int .i64 1, .int .i64 1, .int .i64 1, .slice A1 2 k1, .int .i64 (-1), .int .i64 0, .int .i64 1, .int .i64 1, .slice A0 2 k0, .int .i64 (-1)] 62)).drew
      have hq : ∀ (i : Nat) (e : EntL), es[i]? = some e → e.here _ := fun i e h => It2 (Sl.eff (HG.out.2.1.bid e (List.mem_of_getElem? h)) ((Eff.one fr w7).set 10 _) (HH.out.2.2.2 e (List.mem_of_getElem? h))) hb
      exact mid_lit [⟨1, 1, 1, -1, [(0, 1), (2, 5)], A1, k1⟩, ⟨0, 1, 1, -1, [(0, 0), (2, 5)], A0, k0⟩] HG.out.1 HG.out.2.1.mem HH.out.2.1 rfl rfl hb HG.out.2.2.2.2 hWf hN2.2 (sl_new (by simp)) (fun e he => by
        rcases List.mem_cons.1 he with rfl | he
        · exact ⟨hq 1 _ HH.out.1.2, by simp⟩
        · rw [List.mem_singleton] at he; subst he; exact ⟨hq 0 _ HH.out.1.1, by simp⟩) (by simp) (rings_1 hN2) (by omega)
    case inr.inr.inl =>
      subst hb0
      clear d3 d5 d6 d7 d8 d9
      go_wp2_with fail
      go_meet
      have hb : Below (w7.setCell ⟨fr, 10, none⟩ (.slice (some ⟨w7.heap.size + 1, 0, none⟩) 1 1)).heap.size (w7.setCell ⟨fr, 10, none⟩ (.slice (some ⟨w7.heap.size + 1, 0, none⟩) 1 1)) ((w7.setCell ⟨fr, 10, none⟩ (.slice (some ⟨w7.heap.size + 1, 0, none⟩) 1 1)).alloc (.cells #[.int .i64 1, .int .i64 0] 59)) := (Below.refl _ _).alloc (Nat.le_refl _) _
      have hbs : Sl ((w7.setCell ⟨fr, 10, none⟩ (.slice (some ⟨w7.heap.size + 1, 0, none⟩) 1 1)).alloc (.cells #[.int .i64 1, .int .i64 0] 59)) (some ⟨w7.heap.size, 0, none⟩) ([(1, 0)].flatMap bidC) := sl_new (cs := [.int .i64 1, .int .i64 0]) (by simp)
      exact mid_lit [⟨0, 1, 1, -1, [(1, 0)], some ⟨w7.heap.size, 0, none⟩, 1⟩] HG.out.1 HG.out.2.1.mem HH.out.2.1 rfl rfl (hb.alloc hb.size _) HG.out.2.2.2.2 hWf hN2.2 (sl_new (by simp)) (fun e he => by rw [List.mem_singleton] at he; subst he; exact ⟨It2 hbs ((Below.refl _ _).alloc (Nat.le_refl _) _), by simp⟩) (by simp) (rings_2 hN2) (by omega)
    case inr.inr.inr.inl =>
      subst hb0
      clear d3 d5 d6 d7 d8 d9
      go_wp2_with fail
      go_meet
      exact mid_lit [⟨0, 1, 1, 1, [], none, 0⟩] HG.out.1 HG.out.2.1.mem HH.out.2.1 rfl rfl ((Below.refl _ _).alloc (Nat.le_refl _) _) HG.out.2.2.2.2 hWf hN2.2 (sl_new (by simp)) (fun e he => by rw [List.mem_singleton] at he; subst he; exact ⟨.inl rfl, by simp⟩) (by simp) (rings_3 hN2) (by omega)
    case inr.inr.inr.inr.inl =>
      subst hb0
      clear d3 d5 d6 d7 d8 d9
      go_wp2_with fail
      go_meet
      have hb : Below (w7.setCell ⟨fr, 10, none⟩ (.slice (some ⟨w7.heap.size + 1, 0, none⟩) 1 1)).heap.size (w7.setCell ⟨fr, 10, none⟩ (.slice (some ⟨w7.heap.size + 1, 0, none⟩) 1 1)) ((w7.setCell ⟨fr, 10, none⟩ (.slice (some ⟨w7.heap.size + 1, 0, none⟩) 1 1)).alloc (.cells #[.int .i64 2, .int .i64 0, .int .i64 0, .int .i64 0] 59)) := (Below.refl _ _).alloc (Nat.le_refl _) _
      have hbs : Sl ((w7.setCell ⟨fr, 10, none⟩ (.slice (some ⟨w7.heap.size + 1, 0, none⟩) 1 1)).alloc (.cells #[.int .i64 2, .int .i64 0, .int .i64 0, .int .i64 0] 59)) (some ⟨w7.heap.size, 0, none⟩) ([(2, 0), (0, 0)].flatMap bidC) := sl_new (cs := [.int .i64 2, .int .i64 0, .int .i64 0, .int .i64 0]) (by simp)
      exact mid_lit [⟨0, 1, 1, -1, [(2, 0), (0, 0)], some ⟨w7.heap.size, 0, none⟩, 2⟩] HG.out.1 HG.out.2.1.mem HH.out.2.1 rfl rfl (hb.alloc hb.size _) HG.out.2.2.2.2 hWf hN2.2 (sl_new (by simp)) (fun e he => by rw [List.mem_singleton] at he; subst he; exact ⟨It2 hbs ((Below.refl _ _).alloc (Nat.le_refl _) _), by simp⟩) (by simp) (rings_4 hN2) (by omega)
    case inr.inr.inr.inr.inr.inl =>
      clear d0 d1 d2 d3 d4 d5 d6 d7 d8 d9
      go_wp2_with fail
      go_meet
      unfold RingsMid
      refine ⟨0, 3, none, [], 0, EA, es, ec, 104, ?_, ⟨.inl rfl, ?_, ?_, by simp, HG.out.2.1.lens.2⟩, rings_5 hN2 HG.out.2.2.2.1, by omega, rfl, HG.out.2.2.2.2.setCell (by simpa using hWf) _⟩
      · rw [entN_len HG.out.2.2.2.1]; exact HG.out.1.set 9 _
      · exact HG.out.2.1.ent.eff ((Eff.one fr w7).set 9 _) HH.out.2.2.1
      · exact fun e he => Sl.eff (HG.out.2.1.bid e he) ((Eff.one fr w7).set 9 _) (HH.out.2.2.2 e he)
    case inr.inr.inr.inr.inr.inr.inl =>
      clear d0 d1 d2 d3 d4 d5 d6 d7 d8 d9
      go_wp2_with fail
      go_meet
      unfold RingsMid
      exact ⟨0, 0, MA, memN N, mc, EA, es, ec, 103, by rw [memN_len, entN_len HG.out.2.2.2.1]; exact HG.out.1.set 6 _, HG.out.2.1.set HH.out.2.1 HH.out.2.2.1 HH.out.2.2.2 6 _, rings_6 hN2 HG.out.2.2.2.1, by omega, rfl, HG.out.2.2.2.2.setCell (by simpa using hWf) _⟩
    case inr.inr.inr.inr.inr.inr.inr.inl =>
      clear d0 d1 d2 d3 d4 d5 d6 d7 d8 d9
      go_wp2_with fail
      go_meet
      unfold RingsMid
      exact ⟨1, 3, MA, memN N, mc, EA, es, ec, 103, by rw [memN_len, entN_len HG.out.2.2.2.1]; exact HG.out.1.set 4 _, HG.out.2.1.set HH.out.2.1 HH.out.2.2.1 HH.out.2.2.2 4 _, rings_7 hN2 HG.out.2.2.2.1, by omega, rfl, HG.out.2.2.2.2.setCell (by simpa using hWf) _⟩
    case inr.inr.inr.inr.inr.inr.inr.inr.inl =>
      clear d0 d1 d2 d3 d4 d5 d6 d7 d8 d9
      go_wp2_with fail
      go_meet
      exact mid_lit [⟨1, 0, 1, -1, [], none, 0⟩] HG.out.1 HG.out.2.1.mem HH.out.2.1 rfl rfl ((Below.refl _ _).alloc (Nat.le_refl _) _) HG.out.2.2.2.2 hWf hN2.2 (sl_new (by simp)) (fun e he => by rw [List.mem_singleton] at he; subst he; exact ⟨.inl rfl, by simp⟩) (by simp) (rings_8 hN2) (by omega)
    case inr.inr.inr.inr.inr.inr.inr.inr.inr =>
      clear d0 d1 d2 d3 d4 d5 d6 d7 d8 d9
      go_wp2_with fail
      go_meet
      exact mid_lit [⟨1, 1, 0, -1, [], none, 0⟩] HG.out.1 HG.out.2.1.mem HH.out.2.1 rfl rfl ((Below.refl _ _).alloc (Nat.le_refl _) _) HG.out.2.2.2.2 hWf hN2.2 (sl_new (by simp)) (fun e he => by rw [List.mem_singleton] at he; subst he; exact ⟨.inl rfl, by simp⟩) (by simp) (rings_9 hN2) (by omega)
    -->
  case rest =>
  unfold RingsMid at hcut
  obtain ⟨seen, count, MA', ms', mc', EA', es', ec', E, hF8, hR8, hEE, hEk, rfl, hB8⟩ := hcut
  have hne : E ≠ 0 := by omega
  have hbare : Bare E := .inr (IsErr.mk (by omega))
  have hE8 := HE.out.below hB8
  have hby := bytesBadF_any (ad := ad) 2 0 2 0 seen false count 1 4 MA' mc' ms' EA' ec' es' wc hE8.valid hR8 E hEE hne
  rw [errV_ne ad hne] at hby
  have HQ := hid (And.intro hEE (And.intro hne hbare))
  have c0 : wc.cell? ⟨fr, 0, none⟩ = some (.int .i64 2) := hF8.cell 0
  have c1 : wc.cell? ⟨fr, 1, none⟩ = some (.int .i64 0) := hF8.cell 1
  have c2 : wc.cell? ⟨fr, 2, none⟩ = some (.int .i64 2) := hF8.cell 2
  have c3 : wc.cell? ⟨fr, 3, none⟩ = some (.int .i64 0) := hF8.cell 3
  have c4 : wc.cell? ⟨fr, 4, none⟩ = some (.int .i64 seen) := hF8.cell 4
  have c5 : wc.cell? ⟨fr, 5, none⟩ = some (.bool false) := hF8.cell 5
  have c6 : wc.cell? ⟨fr, 6, none⟩ = some (.int .i64 count) := hF8.cell 6
  have c7 : wc.cell? ⟨fr, 7, none⟩ = some (.int .i64 1) := hF8.cell 7
  have c8 : wc.cell? ⟨fr, 8, none⟩ = some (.int .i64 4) := hF8.cell 8
  have c9 : wc.cell? ⟨fr, 9, none⟩ = some (.slice MA' ms'.length mc') := hF8.cell 9
  have c10 : wc.cell? ⟨fr, 10, none⟩ = some (.slice EA' es'.length ec') := hF8.cell 10
  have HS := hid (And.intro hF8 (And.intro hR8 hB8))
  clear hF8 hR8 hEE hEk hne hbare hB8 hE8 HG r3 r4 hff f4 f6 f9 f10 hl7 hlr7
  go_wp2_with fail
  refine hby.mono ?_
  rintro e w9 ⟨rfl, hb9⟩
  have hF9 := (Eff.of_below (S := fun _ => False) hb9).blk HS.out.1 (fun h => h)
  have hB9 := HS.out.2.2.trans (hb9.mono HS.out.2.2.size)
  have hR9 := HS.out.2.1.on hb9
  clear c0 c1 c2 c3 c4 c5 c6 c7 c8 c9 c10
  have c0 : w9.cell? ⟨fr, 0, none⟩ = some (.int .i64 2) := hF9.cell 0
  have c1 : w9.cell? ⟨fr, 1, none⟩ = some (.int .i64 0) := hF9.cell 1
  have c2 : w9.cell? ⟨fr, 2, none⟩ = some (.int .i64 2) := hF9.cell 2
  have c3 : w9.cell? ⟨fr, 3, none⟩ = some (.int .i64 0) := hF9.cell 3
  have c4 : w9.cell? ⟨fr, 4, none⟩ = some (.int .i64 seen) := hF9.cell 4
  have c5 : w9.cell? ⟨fr, 5, none⟩ = some (.bool false) := hF9.cell 5
  have c6 : w9.cell? ⟨fr, 6, none⟩ = some (.int .i64 count) := hF9.cell 6
  have c7 : w9.cell? ⟨fr, 7, none⟩ = some (.int .i64 1) := hF9.cell 7
  have c8 : w9.cell? ⟨fr, 8, none⟩ = some (.int .i64 4) := hF9.cell 8
  have c9 : w9.cell? ⟨fr, 9, none⟩ = some (.slice MA' ms'.length mc') := hF9.cell 9
  have c10 : w9.cell? ⟨fr, 10, none⟩ = some (.slice EA' es'.length ec') := hF9.cell 10
  have hv9 := validF_any (ad := ad) 2 0 2 0 seen false count 1 4 MA' mc' ms' EA' ec' es' w9 (HE.out.below hB9).valid hR9
  rw [HQ.out.1, GivesErrB_ne HQ.out.2.1] at hv9
  clear hby hb9 hF9 hR9
  go_wp2_with fail
  refine hv9.mono ?_
  rintro e w10 ⟨rfl, hb10⟩
  have hB10 := hB9.trans (hb10.mono hB9.size)
  have hi10 := is_any (ad := ad) (k := E) E (HE.out.below hB10) HQ.out.2.2
  rw [errV_ne ad HQ.out.2.1, beq_self_eq_true] at hi10
  clear c0 c1 c2 c3 c4 c5 c6 c7 c8 c9 c10 hv9 hb10 hB9
  go_wp2_with fail
  refine hi10.mono ?_
  rintro e w11 ⟨rfl, hb11⟩
  have hB11 := hB10.trans (hb11.mono hB10.size)
  have hi11 := is_any (ad := ad) (k := E) E (HE.out.below hB11) HQ.out.2.2
  rw [errV_ne ad HQ.out.2.1, beq_self_eq_true] at hi11
  clear hi10 hb11 hB10
  go_wp2_with fail
  refine hi11.mono ?_
  rintro e w12 ⟨rfl, hb12⟩
  have hB12 := hB11.trans (hb12.mono hB11.size)
  clear hi11 hb12 hB11
  go_wp2_with fail
  go_ret
  exact ⟨rfl, hB12⟩
end Go.Proofs.YtogcbiooddodlaaDoor
