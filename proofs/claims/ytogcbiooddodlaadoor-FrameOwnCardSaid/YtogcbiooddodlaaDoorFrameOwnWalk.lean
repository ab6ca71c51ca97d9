/- FrameOwn: the walk. -/
import Derived.Test.YtogcbiooddodlaaDoorFrameLaid
import Derived.Test.YtogcbiooddodlaaDoorLaidErrsV
namespace Go.Proofs.YtogcbiooddodlaaDoor
open Go.RowKit
set_option linter.unusedSimpArgs false

/-- Behind what was done to the copy: it lies whole, and is no more as the first. -/
def OwnMid (W : World) (f : FrL) (tf tc : Nat) (wx : World) : Prop := ∃ c : FrL, Blk wx tf f.cells 64 ∧ Blk wx tc c.cells 64 ∧ FrOk wx c ∧ c.pl ≠ f.pl ∧ Below W.heap.size W wx
attribute [irreducible] OwnMid
theorem RingOwn.ok {B : Nat} {w : World} {M E : Option Addr} {ms : List Int} {es : List EntL} {mc ec : Nat} (h : RingOwn B w M ms mc E es ec) (kind fr tt life seen : Int) (out : Bool) (count founder hop : Int) : FrOk w ⟨kind, fr, tt, life, seen, out, count, founder, hop, M, ms, mc, E, es, ec⟩ := by
  have key : ∀ (E : TypeId) (s n c : Nat) (A : Option Addr) (xs : List Value), w.ownsRow B E s (.slice A n c) n xs → n ≤ maxLen := fun E s n c A xs ho => by
    obtain ⟨_, c', e, h1, h2, _⟩ := Sl.row ho
    exact Nat.le_trans h1 h2
  exact ⟨sl_own h.mem, sl_own h.ent, fun e he => sl_own (h.bid e he), key _ _ _ _ _ _ h.mem, key _ _ _ _ _ _ h.ent, fun e he => key _ _ _ _ _ _ (h.bid e he)⟩
set_option maxRecDepth 100000 in
set_option maxHeartbeats 8000000 in
theorem frameOwn_walk {ad : Int → Addr} (f : FrL) (a1 : Int) (w : World) (hf : FrOk w f) (hE : ErrsV ad w) : Calls Tryd.prog 10 #[f.val, .int .i64 a1] w (SaysTrue w) := by
  obtain ⟨j, hj, hj1⟩ := mod_nat a1 4 (by omega)
  have nj : ∀ w, _ := fun w => number_any a1 4 (by omega) (by omega) w
  rw [hj] at nj
  clear hj
  have HNJ := hid nj
  clear nj
  have HFO := hid (And.intro hf hE)
  have hlight := fun w hf => light_any f w hf
  have hclone := fun w hf hl => clone_any f w hf hl
  have hvalid : ∀ w, FrOk w f → ErrsV ad w → f.light = true → _ := fun w hf hE hl => validF_any (ad := ad) f.kind f.fr f.tt f.life f.seen f.out f.count f.founder f.hop f.MA f.mc f.ms f.EA f.ec f.es w hE (hf.ring hl)
  have HCO := hid (And.intro hlight (And.intro hclone hvalid))
  clear hlight hclone hvalid
  clear hf hE
  obtain ⟨f0, hf0⟩ : ∃ f0, f0 = f := ⟨_, rfl⟩
  obtain ⟨kind, fr, tt, life, seen, out, count, founder, hop, MA, ms, mc, EA, es, ec⟩ := f
  have HF0 := hid hf0
  clear hf0
  rw [← HF0.out] at HFO HCO
  have hb1 : Below w.heap.size w (w.alloc (.cells (frameV kind fr tt life seen out count founder hop MA ms.length mc EA es.length ec) 64)) := (Below.refl _ _).alloc (Nat.le_refl _) _
  have hx1 : Blk (w.alloc (.cells (frameV kind fr tt life seen out count founder hop MA ms.length mc EA es.length ec) 64)) w.heap.size (frameL kind fr tt life seen out count founder hop MA ms.length mc EA es.length ec) 64 := Blk.new w _ _
  have hfirst := first5V_any (ad := ad) (w.alloc (.cells (frameV kind fr tt life seen out count founder hop MA ms.length mc EA es.length ec) 64)) (HFO.out.2.below hb1)
  simp only [FrL.val]
  go_enter Tryd.func10, Tryd.ntmps10
  go_wp2_with fail
  refine hfirst.mono ?_
  rintro e w2 ⟨rfl, hb2⟩
  have hx2 := (Eff.of_below (S := fun _ => False) hb2).blk hx1 (fun h => h)
  have hB2 := hb1.trans (hb2.mono hb1.size)
  clear hb1 hx1 hb2 hfirst
  have c0 : w2.cell? ⟨w.heap.size, 0, none⟩ = some (.int .i64 kind) := hx2.cell 0
  have c1 : w2.cell? ⟨w.heap.size, 1, none⟩ = some (.int .i64 fr) := hx2.cell 1
  have c2 : w2.cell? ⟨w.heap.size, 2, none⟩ = some (.int .i64 tt) := hx2.cell 2
  have c3 : w2.cell? ⟨w.heap.size, 3, none⟩ = some (.int .i64 life) := hx2.cell 3
  have c4 : w2.cell? ⟨w.heap.size, 4, none⟩ = some (.int .i64 seen) := hx2.cell 4
  have c5 : w2.cell? ⟨w.heap.size, 5, none⟩ = some (.bool out) := hx2.cell 5
  have c6 : w2.cell? ⟨w.heap.size, 6, none⟩ = some (.int .i64 count) := hx2.cell 6
  have c7 : w2.cell? ⟨w.heap.size, 7, none⟩ = some (.int .i64 founder) := hx2.cell 7
  have c8 : w2.cell? ⟨w.heap.size, 8, none⟩ = some (.int .i64 hop) := hx2.cell 8
  have c9 : w2.cell? ⟨w.heap.size, 9, none⟩ = some (.slice MA ms.length mc) := hx2.cell 9
  have c10 : w2.cell? ⟨w.heap.size, 10, none⟩ = some (.slice EA es.length ec) := hx2.cell 10
  have hli := HCO.out.1 w2 (HFO.out.1.on hB2)
  have HFV : Hid (f0.val = .agg (frameV kind fr tt life seen out count founder hop MA ms.length mc EA es.length ec)) := by rw [Hid, HF0.out]
  rw [HFV.out] at hli
  go_wp2_with fail
  refine hli.mono ?_
  rintro e w3 ⟨rfl, hb3⟩
  have hx3 := (Eff.of_below (S := fun _ => False) hb3).blk hx2 (fun h => h)
  have hB3 := hB2.trans (hb3.mono hB2.size)
  clear c0 c1 c2 c3 c4 c5 c6 c7 c8 c9 c10 hx2 hb3 hli hB2
  cases hL : f0.light
  case false =>
    clear hL
    go_wp2_with fail
    go_ret
    exact ⟨rfl, hB3⟩
  case true =>
  have c0 : w3.cell? ⟨w.heap.size, 0, none⟩ = some (.int .i64 kind) := hx3.cell 0
  have c1 : w3.cell? ⟨w.heap.size, 1, none⟩ = some (.int .i64 fr) := hx3.cell 1
  have c2 : w3.cell? ⟨w.heap.size, 2, none⟩ = some (.int .i64 tt) := hx3.cell 2
  have c3 : w3.cell? ⟨w.heap.size, 3, none⟩ = some (.int .i64 life) := hx3.cell 3
  have c4 : w3.cell? ⟨w.heap.size, 4, none⟩ = some (.int .i64 seen) := hx3.cell 4
  have c5 : w3.cell? ⟨w.heap.size, 5, none⟩ = some (.bool out) := hx3.cell 5
  have c6 : w3.cell? ⟨w.heap.size, 6, none⟩ = some (.int .i64 count) := hx3.cell 6
  have c7 : w3.cell? ⟨w.heap.size, 7, none⟩ = some (.int .i64 founder) := hx3.cell 7
  have c8 : w3.cell? ⟨w.heap.size, 8, none⟩ = some (.int .i64 hop) := hx3.cell 8
  have c9 : w3.cell? ⟨w.heap.size, 9, none⟩ = some (.slice MA ms.length mc) := hx3.cell 9
  have c10 : w3.cell? ⟨w.heap.size, 10, none⟩ = some (.slice EA es.length ec) := hx3.cell 10
  have hva := HCO.out.2.2 w3 (HFO.out.1.on hB3) (HFO.out.2.below hB3) hL
  have hVA : Calls Tryd.prog 32 #[.agg (frameV kind fr tt life seen out count founder hop MA ms.length mc EA es.length ec)] w3 (GivesErrB ad w3 (frameE kind fr tt life seen out count founder hop ms es)) := by
    rw [HF0.out] at hva
    exact hva
  have HL := hid hL
  clear hva hL
  by_cases h0 : frameE kind fr tt life seen out count founder hop ms es = 0
  case neg =>
    rw [GivesErrB_ne h0] at hVA
    generalize frameE kind fr tt life seen out count founder hop ms es = E at *
    clear h0
    go_wp2_with fail
    refine hVA.mono ?_
    rintro e w4 ⟨rfl, hb4⟩
    have hB4 := hB3.trans (hb4.mono hB3.size)
    go_wp2_with fail
    go_ret
    exact ⟨rfl, hB4⟩
  rw [h0, GivesErrB_zero] at hVA
  have HV := hid h0
  clear h0
  by_cases hk : kind = 2
  case neg =>
    have hkb : (kind != 2) = true := by simpa using hk
    clear hk
    go_wp2_with fail
    refine hVA.mono ?_
    rintro e w4 ⟨rfl, hb4⟩
    have hB4 := hB3.trans (hb4.mono hB3.size)
    have c0 := (hb4.cell (lt_of_cell c0)).trans c0
    go_wp2_with fail
    go_ret
    exact ⟨rfl, hB4⟩
  subst hk
  go_wp2_with fail
  refine hVA.mono ?_
  rintro e w4 ⟨rfl, hb4⟩
  have hB4 := hB3.trans (hb4.mono hB3.size)
  have hx4 := (Eff.of_below (S := fun _ => False) hb4).blk hx3 (fun h => h)
  clear c0 c1 c2 c3 c4 c5 c6 c7 c8 c9 c10 hb4 hx3 hB3 hVA
  have c0 : w4.cell? ⟨w.heap.size, 0, none⟩ = some (.int .i64 2) := hx4.cell 0
  have c1 : w4.cell? ⟨w.heap.size, 1, none⟩ = some (.int .i64 fr) := hx4.cell 1
  have c2 : w4.cell? ⟨w.heap.size, 2, none⟩ = some (.int .i64 tt) := hx4.cell 2
  have c3 : w4.cell? ⟨w.heap.size, 3, none⟩ = some (.int .i64 life) := hx4.cell 3
  have c4 : w4.cell? ⟨w.heap.size, 4, none⟩ = some (.int .i64 seen) := hx4.cell 4
  have c5 : w4.cell? ⟨w.heap.size, 5, none⟩ = some (.bool out) := hx4.cell 5
  have c6 : w4.cell? ⟨w.heap.size, 6, none⟩ = some (.int .i64 count) := hx4.cell 6
  have c7 : w4.cell? ⟨w.heap.size, 7, none⟩ = some (.int .i64 founder) := hx4.cell 7
  have c8 : w4.cell? ⟨w.heap.size, 8, none⟩ = some (.int .i64 hop) := hx4.cell 8
  have c9 : w4.cell? ⟨w.heap.size, 9, none⟩ = some (.slice MA ms.length mc) := hx4.cell 9
  have c10 : w4.cell? ⟨w.heap.size, 10, none⟩ = some (.slice EA es.length ec) := hx4.cell 10
  have hcl := HCO.out.2.1 w4 (HFO.out.1.on hB4) HL.out
  rw [HFV.out] at hcl
  go_wp2_with fail
  refine hcl.mono ?_
  rintro e w5 ⟨M3, m3c, E3, es', e3c, he, hpl, hown, hb5⟩
  rw [HF0.out] at he hpl hown
  have he : e = .returned (.agg (frameV 2 fr tt life seen out count founder hop M3 ms.length m3c E3 es'.length e3c)) := he
  have hlen : es'.length = es.length := len_pl hpl
  rw [hlen] at he
  subst he
  have hx5 := (Eff.of_below (S := fun _ => False) hb5).blk hx4 (fun h => h)
  have hB5 := hB4.trans (hb5.mono hB4.size)
  have hx4l := hx4.lt
  clear c0 c1 c2 c3 c4 c5 c6 c7 c8 c9 c10 hb5 hx4 hcl
  have hb6 : Below w5.heap.size w5 (w5.alloc (.cells (frameV 2 fr tt life seen out count founder hop M3 ms.length m3c E3 es.length e3c) 64)) := (Below.refl _ _).alloc (Nat.le_refl _) _
  have hc6 : Blk (w5.alloc (.cells (frameV 2 fr tt life seen out count founder hop M3 ms.length m3c E3 es.length e3c) 64)) w5.heap.size (frameL 2 fr tt life seen out count founder hop M3 ms.length m3c E3 es.length e3c) 64 := Blk.new w5 _ _
  have hx6 := (Eff.of_below (S := fun _ => False) hb6).blk hx5 (fun h => h)
  have hown6 := hown.eff (Eff.of_below (S := fun _ => False) hb6) (fun _ _ h => h)
  have hB6 := hB5.trans (hb6.mono hB5.size)
  have hlt : ∀ q, (∀ a, M3 = some a → a.block = q → q < w5.heap.size) ∧ (∀ a, E3 = some a → a.block = q → q < w5.heap.size) ∧ (∀ e ∈ es', ∀ a, e.A = some a → a.block = q → q < w5.heap.size) := fun q =>
    ⟨fun a ha hq => by rw [← hq]; exact (hown.mem.lt a.block (by rw [ha]; rfl)).2, fun a ha hq => by rw [← hq]; exact (hown.ent.lt a.block (by rw [ha]; rfl)).2, fun e he a ha hq => by rw [← hq]; exact ((hown.bid e he).lt a.block (by rw [ha]; rfl)).2⟩
  have htf := hx5.lt
  have hB4s : w.heap.size < w4.heap.size := hx4l
  go_upto_region 7 with (fail)
  generalize w5.alloc (.cells (frameV 2 fr tt life seen out count founder hop M3 ms.length m3c E3 es.length e3c) 64) = w6 at *
  have hmany : 1 ≤ ms.length := by
    obtain ⟨_, _, h | h⟩ := frameE_valid HV.out
    · exact absurd h.1 (by decide)
    · exact h.2.2.2.2.many.1
  have hcok := hown6.ok 2 fr tt life seen out count founder hop
  have hfok := HFO.out.1.on hB6
  have hsm := sameF_any ⟨2, fr, tt, life, seen, out, count, founder, hop, M3, ms, m3c, E3, es', e3c⟩ f0 w6 hcok hfok
  have hpe : (FrL.mk 2 fr tt life seen out count founder hop M3 ms m3c E3 es' e3c).pl = f0.pl := by rw [HF0.out]; simp only [FrL.pl, hpl]
  rw [decide_eq_true hpe, HFV.out] at hsm
  simp only [FrL.val, hlen] at hsm
  have c0 : w6.cell? ⟨w.heap.size, 0, none⟩ = some (.int .i64 2) := hx6.cell 0
  have c1 : w6.cell? ⟨w.heap.size, 1, none⟩ = some (.int .i64 fr) := hx6.cell 1
  have c2 : w6.cell? ⟨w.heap.size, 2, none⟩ = some (.int .i64 tt) := hx6.cell 2
  have c3 : w6.cell? ⟨w.heap.size, 3, none⟩ = some (.int .i64 life) := hx6.cell 3
  have c4 : w6.cell? ⟨w.heap.size, 4, none⟩ = some (.int .i64 seen) := hx6.cell 4
  have c5 : w6.cell? ⟨w.heap.size, 5, none⟩ = some (.bool out) := hx6.cell 5
  have c6 : w6.cell? ⟨w.heap.size, 6, none⟩ = some (.int .i64 count) := hx6.cell 6
  have c7 : w6.cell? ⟨w.heap.size, 7, none⟩ = some (.int .i64 founder) := hx6.cell 7
  have c8 : w6.cell? ⟨w.heap.size, 8, none⟩ = some (.int .i64 hop) := hx6.cell 8
  have c9 : w6.cell? ⟨w.heap.size, 9, none⟩ = some (.slice MA ms.length mc) := hx6.cell 9
  have c10 : w6.cell? ⟨w.heap.size, 10, none⟩ = some (.slice EA es.length ec) := hx6.cell 10
  have d0 : w6.cell? ⟨w5.heap.size, 0, none⟩ = some (.int .i64 2) := hc6.cell 0
  have d1 : w6.cell? ⟨w5.heap.size, 1, none⟩ = some (.int .i64 fr) := hc6.cell 1
  have d2 : w6.cell? ⟨w5.heap.size, 2, none⟩ = some (.int .i64 tt) := hc6.cell 2
  have d3 : w6.cell? ⟨w5.heap.size, 3, none⟩ = some (.int .i64 life) := hc6.cell 3
  have d4 : w6.cell? ⟨w5.heap.size, 4, none⟩ = some (.int .i64 seen) := hc6.cell 4
  have d5 : w6.cell? ⟨w5.heap.size, 5, none⟩ = some (.bool out) := hc6.cell 5
  have d6 : w6.cell? ⟨w5.heap.size, 6, none⟩ = some (.int .i64 count) := hc6.cell 6
  have d7 : w6.cell? ⟨w5.heap.size, 7, none⟩ = some (.int .i64 founder) := hc6.cell 7
  have d8 : w6.cell? ⟨w5.heap.size, 8, none⟩ = some (.int .i64 hop) := hc6.cell 8
  have d9 : w6.cell? ⟨w5.heap.size, 9, none⟩ = some (.slice M3 ms.length m3c) := hc6.cell 9
  have d10 : w6.cell? ⟨w5.heap.size, 10, none⟩ = some (.slice E3 es.length e3c) := hc6.cell 10
  have HS := hid (And.intro hown6 (And.intro hlt (And.intro hpl (And.intro hlen (And.intro hx6 (And.intro hc6 hB6))))))
  have hm0 : ((ms.length : Int) == 0) = false := by rw [beq_eq_false_iff_ne]; omega
  clear hown hown6 hlt hpl hlen hx5 hB5 hb6 hcok hfok hpe hx6 hc6 hB6 hB4
  go_wp2_with fail
  refine hsm.mono ?_
  rintro e w7 ⟨rfl, hb7⟩
  have hc7 := (Eff.of_below (S := fun _ => False) hb7).blk HS.out.2.2.2.2.2.1 (fun h => h)
  have d9 : w7.cell? ⟨w5.heap.size, 9, none⟩ = some (.slice M3 ms.length m3c) := hc7.cell 9
  clear c0 c1 c2 c3 c4 c5 c6 c7 c8 c9 c10 d0 d1 d2 d3 d4 d5 d6 d7 d8 hsm
  go_wp2_with fail
  refine (HNJ.out _).mono ?_
  rintro e w' ⟨rfl, rfl⟩
  have hx7 := (Eff.of_below (S := fun _ => False) hb7).blk HS.out.2.2.2.2.1 (fun h => h)
  have hown7 := HS.out.1.eff (Eff.of_below (S := fun _ => False) hb7) (fun _ _ h => h)
  have hB7 := HS.out.2.2.2.2.2.2.trans (hb7.mono HS.out.2.2.2.2.2.2.size)
  have HT := hid (And.intro hown7 (And.intro HS.out.2.1 (And.intro HS.out.2.2.1 (And.intro HS.out.2.2.2.1 (And.intro hx7 (And.intro hc7 hB7))))))
  clear HS hx7 hown7 hB7 hb7 d9 hm0
  have htc := hc7.lt
  generalize w5.heap.size = tc at *
  go_upto_block 0 with (fail)
  go_cut [] (fun wx => OwnMid w f0 w.heap.size tc wx)
  case first =>
    --<
    obtain ⟨hown, hltq, hpl, hlen, hx7, hc7, hB7⟩ := HT.out
    have hme := hown.mem.form hmany
    obtain ⟨g, cap, hgv, hg1, hg2⟩ := hme
    injection hgv with hgv1 hgv2 hgv3
    subst hgv1 hgv3
    have hff : ∀ o, w7.frozen? ⟨tc, o, none⟩ = false := hc7.frozen
    have hgt : g ≠ tc := Nat.ne_of_lt ((hltq g).1 _ rfl rfl)
    have hgf : g ≠ w.heap.size := by have := hB4s; omega
    have htft : w.heap.size ≠ tc := Nat.ne_of_lt htf
    have hMq : ∀ b, E3 = some b → b.block ≠ g ∧ b.block ≠ tc ∧ b.block ≠ w.heap.size ∧ w.heap.size ≤ b.block := fun b hb => ⟨(hown.sepM _ rfl).1 b hb, Nat.ne_of_lt ((hltq b.block).2.1 b hb rfl), by have h1 := (hown.ent.lt b.block (by rw [hb]; rfl)).1; have := hB4s; omega, by have h1 := (hown.ent.lt b.block (by rw [hb]; rfl)).1; have := hB4s; omega⟩
    have hBq : ∀ e ∈ es', ∀ b, e.A = some b → b.block ≠ g ∧ b.block ≠ tc ∧ b.block ≠ w.heap.size ∧ w.heap.size ≤ b.block := fun e he b hb => ⟨(hown.sepM _ rfl).2 e he b hb, Nat.ne_of_lt ((hltq b.block).2.2 e he b hb rfl), by have h1 := ((hown.bid e he).lt b.block (by rw [hb]; rfl)).1; have := hB4s; omega, by have h1 := ((hown.bid e he).lt b.block (by rw [hb]; rfl)).1; have := hB4s; omega⟩
    have hok := hown.ok 2 fr tt life seen out count founder hop
    have h4 : j = 0 ∨ j = 1 ∨ j = 2 ∨ j = 3 := by omega
    have HZ := hid (And.intro hown (And.intro hok (And.intro hpl (And.intro hx7 (And.intro hc7 hB7)))))
    have hms0 : 0 ≤ ms.getD 0 0 ∧ ms.getD 0 0 < 16 := by
      obtain ⟨_, _, h | h⟩ := frameE_valid HV.out
      · exact absurd h.1 (by decide)
      · exact h.2.2.2.2.cars _ (mem_getD hmany)
    have hhop : 0 ≤ hop ∧ hop ≤ 1099511627776 := by
      obtain ⟨_, _, h | h⟩ := frameE_valid HV.out
      · exact absurd h.1 (by decide)
      · exact h.2.2.2.2.hop
    have hents : ∀ e ∈ es', (e.award = -1 ∨ (0 ≤ e.award ∧ e.award < 16)) ∧ ∀ b ∈ e.bids, 0 ≤ b.2 ∧ b.2 ≤ 1048576 := by
      obtain ⟨_, _, h | h⟩ := frameE_valid HV.out
      · exact absurd h.1 (by decide)
      · intro e he
        have hm : e.pl ∈ es.map EntL.pl := hpl ▸ List.mem_map_of_mem he
        obtain ⟨e0, he0, heq⟩ := List.mem_map.1 hm
        obtain ⟨q, hq⟩ := List.getElem?_of_mem he0
        have hv := (h.2.2.2.2.ents q e0 hq).1
        simp only [EntL.pl, Prod.mk.injEq] at heq
        obtain ⟨_, _, _, h1, h2⟩ := heq
        rw [← h1, ← h2]
        refine ⟨?_, fun b hb => (hv.bids b hb).2⟩
        rcases hv.award with ha | ha
        · exact .inl ha
        · exact .inr (h.2.2.2.2.cars _ ha)
    have HEN := hid hents
    have hel : es.length ≤ 40 := by
      have := HL.out
      rw [HF0.out] at this
      simp only [FrL.light, Bool.and_eq_true, decide_eq_true_eq] at this
      exact this.2
    have d8 : w7.cell? ⟨tc, 8, none⟩ = some (.int .i64 hop) := hc7.cell 8
    have d9 : w7.cell? ⟨tc, 9, none⟩ = some (.slice (some ⟨g, 0, none⟩) ms.length m3c) := hc7.cell 9
    have d10 : w7.cell? ⟨tc, 10, none⟩ = some (.slice E3 es.length e3c) := hc7.cell 10
    have HMS := hid hmany
    have HHL := hid hlen
    clear hown hltq hx7 hc7 hok hj1 hpl hB7 HT HNJ hlen hents
    rcases h4 with rfl | rfl | rfl | rfl
    case inl =>
      have g0 : w7.cell? ⟨g, 0, none⟩ = some (.int .i64 (ms.getD 0 0)) := (HZ.out.1.mem.cellAt 0 (by omega)).trans (getD_int hmany)
      have gf : w7.frozen? ⟨g, 0, none⟩ = false := HZ.out.1.mem.frozenAt 0
      have hm1 : (1 : Int) ≤ ms.length := by omega
      have hm0 : (0 : Int) < ms.length := by omega
      obtain ⟨x, hx⟩ : ∃ x, ms.getD 0 0 = x := ⟨_, rfl⟩
      rw [hx] at g0 hms0
      have HX := hid hx
      clear hx
      go_wp2_with fail
      go_meet
      unfold OwnMid
      have he8 : Eff (· = g) w7 (w7.setCell ⟨g, 0, none⟩ (.int .i64 (x + 1))) := (Eff.one g w7).set 0 _
      have hset : (ms.set 0 (x + 1)).length = ms.length := List.length_set
      have hmem := (HZ.out.1.mem.stored 0 (.int .i64 (x + 1))).1
      rw [← List.map_set] at hmem
      refine ⟨⟨2, fr, tt, life, seen, out, count, founder, hop, some ⟨g, 0, none⟩, ms.set 0 (x + 1), m3c, E3, es', e3c⟩, ?_, ?_, ⟨sl_own hmem, Sl.eff HZ.out.2.1.ent he8 (fun a ha => (hMq a ha).1), fun e he => Sl.eff (HZ.out.2.1.bid e he) he8 (fun a ha => (hBq e he a ha).1), by rw [hset]; exact HZ.out.2.1.lens.1, HZ.out.2.1.lens.2⟩, ?_, HZ.out.2.2.2.2.2.setCell (by have := hB4s; show w.heap.size ≤ g; omega) _⟩
      · rw [HF0.out]
        exact he8.blk HZ.out.2.2.2.1 (fun h => hgf h.symm)
      · have := he8.blk HZ.out.2.2.2.2.1 (fun h => hgt h.symm)
        simp only [FrL.cells, hset, HHL.out]
        exact this
      · rw [HF0.out]
        simp only [FrL.pl, ne_eq, Prod.mk.injEq, not_and]
        intro _ _ _ _ _ _ _ _ _ h
        exfalso
        have h2 := congrArg (fun l => l.getD 0 0) h
        simp only [List.getD, List.getElem?_set_self HMS.out, Option.getD_some] at h2
        have h3 := HX.out
        simp only [List.getD] at h3
        rw [h3] at h2
        omega
    case inr.inl =>
      clear d9 d10
      go_wp2_with fail
      go_meet
      unfold OwnMid
      have he8 : Eff (· = tc) w7 (w7.setCell ⟨tc, 8, none⟩ (.int .i64 (hop + 1))) := (Eff.one tc w7).set 8 _
      refine ⟨⟨2, fr, tt, life, seen, out, count, founder, hop + 1, some ⟨g, 0, none⟩, ms, m3c, E3, es', e3c⟩, ?_, ?_, ⟨Sl.eff HZ.out.2.1.mem he8 (fun a ha h => by obtain rfl := Option.some.inj ha; exact hgt h), Sl.eff HZ.out.2.1.ent he8 (fun a ha => (hMq a ha).2.1), fun e he => Sl.eff (HZ.out.2.1.bid e he) he8 (fun a ha => (hBq e he a ha).2.1), HZ.out.2.1.lens⟩, ?_, HZ.out.2.2.2.2.2.setCell (Nat.le_of_lt htf) _⟩
      · rw [HF0.out]
        exact he8.blk HZ.out.2.2.2.1 (fun h => htft h)
      · have := HZ.out.2.2.2.2.1.set 8 (.int .i64 (hop + 1))
        simp only [FrL.cells, HHL.out]
        exact this
      · rw [HF0.out]
        simp only [FrL.pl, ne_eq, Prod.mk.injEq, not_and]
        intro _ _ _ _ _ _ _ _ h
        exfalso
        omega
    case inr.inr.inl =>
      by_cases hz : es.length = 0
      · have hz' : ((es.length : Int) == 0) = true := by rw [beq_iff_eq]; omega
        clear d8 d9
        go_wp2_with fail
        go_ret
        exact ⟨rfl, HZ.out.2.2.2.2.2⟩
      have hz' : ((es.length : Int) == 0) = false := by rw [beq_eq_false_iff_ne]; omega
      have hep : 0 < es'.length := by have := HHL.out; omega
      obtain ⟨g2, cap2, hgv2, hg21, hg22⟩ := HZ.out.1.ent.form hep
      injection hgv2 with hv1 hv2 hv3
      subst hv1 hv3
      obtain ⟨e, he⟩ : ∃ e, es'[0]? = some e := ⟨es'[0], List.getElem?_eq_getElem hep⟩
      have hem := List.mem_of_getElem? he
      have haw := (HEN.out e hem).1
      have g0 : w7.cell? ⟨g2, 4, none⟩ = some (.int .i64 e.award) := (HZ.out.1.ent.cellAt 4 (by omega)).trans (by
        have := flat_get EntL.len es' [] 0 4 e he (by omega)
        rw [List.append_nil] at this
        exact this)
      have gf : w7.frozen? ⟨g2, 4, none⟩ = false := HZ.out.1.ent.frozenAt 4
      have hfs := flat_set EntL.len es' [] 0 4 e ⟨e.floor, e.dir, e.gen, e.award + 3, e.bids, e.A, e.c⟩ (.int .i64 (e.award + 3)) he (by omega) rfl
      rw [List.append_nil, List.append_nil] at hfs
      have hent := (HZ.out.1.ent.stored 4 (.int .i64 (e.award + 3))).1
      rw [show (es'.flatMap EntL.cells).set 4 (.int .i64 (e.award + 3)) = (es'.set 0 ⟨e.floor, e.dir, e.gen, e.award + 3, e.bids, e.A, e.c⟩).flatMap EntL.cells from hfs] at hent
      have he8 : Eff (· = g2) w7 (w7.setCell ⟨g2, 4, none⟩ (.int .i64 (e.award + 3))) := (Eff.one g2 w7).set 4 _
      obtain ⟨fl, di, ge, aw, bs, bA, bc⟩ := e
      dsimp only at g0 hent he8 haw
      have hez : (0 : Int) < es.length := by omega
      have HE8 := hid (And.intro hent (And.intro he8 (And.intro he hem)))
      clear hfs hent he8 he hem d8 d9
      go_wp2_with fail
      go_meet
      unfold OwnMid
      obtain ⟨hent, he8, he, hem⟩ := HE8.out
      have hqg := hMq _ rfl
      have hset : (es'.set 0 ⟨fl, di, ge, aw + 3, bs, bA, bc⟩).length = es'.length := List.length_set
      have hmemset : ∀ x ∈ es'.set 0 (⟨fl, di, ge, aw + 3, bs, bA, bc⟩ : EntL), x = ⟨fl, di, ge, aw + 3, bs, bA, bc⟩ ∨ x ∈ es' := fun x hx => (List.mem_or_eq_of_mem_set hx).symm
      refine ⟨⟨2, fr, tt, life, seen, out, count, founder, hop, some ⟨g, 0, none⟩, ms, m3c, some ⟨g2, 0, none⟩, es'.set 0 ⟨fl, di, ge, aw + 3, bs, bA, bc⟩, e3c⟩, ?_, ?_, ⟨Sl.eff HZ.out.2.1.mem he8 (fun a ha h => by obtain rfl := Option.some.inj ha; exact hqg.1 h.symm), ?_, fun x hx => ?_, HZ.out.2.1.lens.1, by rw [hset]; exact HZ.out.2.1.lens.2.1, fun x hx => ?_⟩, ?_, HZ.out.2.2.2.2.2.setCell (p := ⟨g2, 4, none⟩) hqg.2.2.2 _⟩
      · rw [HF0.out]
        exact he8.blk HZ.out.2.2.2.1 (fun h => hqg.2.2.1 h.symm)
      · have := he8.blk HZ.out.2.2.2.2.1 (fun h => hqg.2.1 h.symm)
        simp only [FrL.cells, hset, HHL.out]
        exact this
      · exact sl_own hent
      · have hsep := HZ.out.1.sepE _ rfl
        rcases hmemset x hx with rfl | hx
        · exact Sl.eff (show Sl w7 bA (bs.flatMap bidC) from HZ.out.2.1.bid ⟨fl, di, ge, aw, bs, bA, bc⟩ hem) he8 (fun a ha => hsep ⟨fl, di, ge, aw, bs, bA, bc⟩ hem a ha)
        · exact Sl.eff (HZ.out.2.1.bid x hx) he8 (fun a ha => hsep x hx a ha)
      · rcases hmemset x hx with rfl | hx
        · exact HZ.out.2.1.lens.2.2 ⟨fl, di, ge, aw, bs, bA, bc⟩ hem
        · exact HZ.out.2.1.lens.2.2 x hx
      · rw [HF0.out]
        simp only [FrL.pl, ne_eq, Prod.mk.injEq, not_and]
        intro _ _ _ _ _ _ _ _ _ _ h
        rw [← HZ.out.2.2.1] at h
        have h2 := congrArg (fun l => l[0]?) h
        simp only [List.getElem?_map, List.getElem?_set_self hep, he, Option.map_some, Option.some.injEq, EntL.pl, Prod.mk.injEq] at h2
        omega
    case inr.inr.inr =>
      by_cases hz : es.length = 0
      · have hz' : ((es.length : Int) == 0) = true := by rw [beq_iff_eq]; omega
        clear d8 d9
        go_wp2_with fail
        go_ret
        exact ⟨rfl, HZ.out.2.2.2.2.2⟩
      have hz' : ((es.length : Int) == 0) = false := by rw [beq_eq_false_iff_ne]; omega
      have hep : 0 < es'.length := by have := HHL.out; omega
      obtain ⟨g2, cap2, hgv2, hg21, hg22⟩ := HZ.out.1.ent.form hep
      injection hgv2 with hv1 hv2 hv3
      subst hv1 hv3
      obtain ⟨e, he⟩ : ∃ e, es'[0]? = some e := ⟨es'[0], List.getElem?_eq_getElem hep⟩
      have hem := List.mem_of_getElem? he
      have g0 : w7.cell? ⟨g2, 3, none⟩ = some (.slice e.A e.bids.length e.c) := (HZ.out.1.ent.cellAt 3 (by omega)).trans (by
        have := flat_get EntL.len es' [] 0 3 e he (by omega)
        rw [List.append_nil] at this
        exact this)
      have hez : (0 : Int) < es.length := by omega
      obtain ⟨fl, di, ge, aw, bs, bA, bc⟩ := e
      dsimp only at g0
      by_cases hbz : bs.length = 0
      · have hbz' : ((bs.length : Int) == 0) = true := by rw [beq_iff_eq]; omega
        clear d8 d9 he hem
        go_wp2_with fail
        go_ret
        exact ⟨rfl, HZ.out.2.2.2.2.2⟩
      have hbz' : ((bs.length : Int) == 0) = false := by rw [beq_eq_false_iff_ne]; omega
      have hob := HZ.out.1.bid _ hem
      dsimp only at hob
      obtain ⟨g3, cap3, hgv3, hg31, hg32⟩ := hob.form (by omega)
      injection hgv3 with hv1 hv2 hv3
      subst hv1 hv3
      obtain ⟨b, hb⟩ : ∃ b, bs[0]? = some b := ⟨bs[0], List.getElem?_eq_getElem (by omega)⟩
      have hbt := (HEN.out _ hem).2 b (List.mem_of_getElem? hb)
      have g1 : w7.cell? ⟨g3, 1, none⟩ = some (.int .i64 b.2) := (hob.cellAt 1 (by omega)).trans (by
        have := flat_get bidC_len bs [] 0 1 b hb (by omega)
        rw [List.append_nil] at this
        exact this)
      have gf : w7.frozen? ⟨g3, 1, none⟩ = false := hob.frozenAt 1
      obtain ⟨b0, b1⟩ := b
      dsimp only at g1 hbt
      have hfs := flat_set bidC_len bs [] 0 1 (b0, b1) (b0, b1 + 1) (.int .i64 (b1 + 1)) hb (by omega) rfl
      rw [List.append_nil, List.append_nil] at hfs
      have hst := (hob.stored 1 (.int .i64 (b1 + 1))).1
      rw [show (bs.flatMap bidC).set 1 (.int .i64 (b1 + 1)) = (bs.set 0 (b0, b1 + 1)).flatMap bidC from hfs] at hst
      have hbi : (0 : Int) < bs.length := by omega
      have HE8 := hid (And.intro hst (And.intro he (And.intro hem hb)))
      clear hfs hst he hem hb hob d8 d9
      go_wp2_with fail
      go_meet
      unfold OwnMid
      obtain ⟨hst, he, hem, hb⟩ := HE8.out
      have he8 : Eff (· = g3) w7 (w7.setCell ⟨g3, 1, none⟩ (.int .i64 (b1 + 1))) := (Eff.one g3 w7).set 1 _
      have hqg := hBq _ hem _ rfl
      have hset : (bs.set 0 (b0, b1 + 1)).length = bs.length := List.length_set
      have hmemset : ∀ x ∈ es'.set 0 (⟨fl, di, ge, aw, bs.set 0 (b0, b1 + 1), some ⟨g3, 0, none⟩, bc⟩ : EntL), x = ⟨fl, di, ge, aw, bs.set 0 (b0, b1 + 1), some ⟨g3, 0, none⟩, bc⟩ ∨ ∃ i : Nat, 0 < i ∧ es'[i]? = some x := fun x hx => by
        obtain ⟨i, hi⟩ := List.getElem?_of_mem hx
        rw [List.getElem?_set] at hi
        by_cases h0 : 0 = i
        · rw [if_pos h0, if_pos hep] at hi
          exact .inl (Option.some.inj hi).symm
        · rw [if_neg h0] at hi
          exact .inr ⟨i, by omega, hi⟩
      have hlset : (es'.set 0 (⟨fl, di, ge, aw, bs.set 0 (b0, b1 + 1), some ⟨g3, 0, none⟩, bc⟩ : EntL)).length = es'.length := List.length_set
      have hcells : (es'.set 0 (⟨fl, di, ge, aw, bs.set 0 (b0, b1 + 1), some ⟨g3, 0, none⟩, bc⟩ : EntL)).flatMap EntL.cells = es'.flatMap EntL.cells := by
        obtain ⟨rest, hrest⟩ : ∃ rest, es' = ⟨fl, di, ge, aw, bs, some ⟨g3, 0, none⟩, bc⟩ :: rest := by
          cases es' with
          | nil => cases he
          | cons y l => exact ⟨l, by rw [List.getElem?_cons_zero] at he; rw [Option.some.inj he]⟩
        rw [hrest, List.set_cons_zero, List.flatMap_cons, List.flatMap_cons]
        simp only [EntL.cells, hset]
      refine ⟨⟨2, fr, tt, life, seen, out, count, founder, hop, some ⟨g, 0, none⟩, ms, m3c, some ⟨g2, 0, none⟩, es'.set 0 ⟨fl, di, ge, aw, bs.set 0 (b0, b1 + 1), some ⟨g3, 0, none⟩, bc⟩, e3c⟩, ?_, ?_, ⟨Sl.eff HZ.out.2.1.mem he8 (fun a ha h => by obtain rfl := Option.some.inj ha; exact hqg.1 h.symm), ?_, fun x hx => ?_, HZ.out.2.1.lens.1, by rw [hlset]; exact HZ.out.2.1.lens.2.1, fun x hx => ?_⟩, ?_, HZ.out.2.2.2.2.2.setCell (p := ⟨g3, 1, none⟩) hqg.2.2.2 _⟩
      · rw [HF0.out]
        exact he8.blk HZ.out.2.2.2.1 (fun h => hqg.2.2.1 h.symm)
      · have := he8.blk HZ.out.2.2.2.2.1 (fun h => hqg.2.1 h.symm)
        simp only [FrL.cells, hlset, HHL.out]
        exact this
      · rw [hcells]
        exact Sl.eff HZ.out.2.1.ent he8 (fun a ha h => by obtain rfl := Option.some.inj ha; exact HZ.out.1.sepE _ rfl _ hem _ rfl h.symm)
      · rcases hmemset x hx with rfl | ⟨i, hi0, hi⟩
        · exact sl_own hst
        · exact Sl.eff (HZ.out.2.1.bid x (List.mem_of_getElem? hi)) he8 (fun a ha h => HZ.out.1.sepB 0 i _ x _ a hi0 he hi rfl ha h.symm)
      · rcases hmemset x hx with rfl | ⟨i, hi0, hi⟩
        · show (bs.set 0 (b0, b1 + 1)).length ≤ maxLen
          rw [hset]
          exact HZ.out.2.1.lens.2.2 _ hem
        · exact HZ.out.2.1.lens.2.2 x (List.mem_of_getElem? hi)
      · rw [HF0.out]
        simp only [FrL.pl, ne_eq, Prod.mk.injEq, not_and]
        intro _ _ _ _ _ _ _ _ _ _ h
        rw [← HZ.out.2.2.1] at h
        have h2 := congrArg (fun l => l[0]?) h
        simp only [List.getElem?_map, List.getElem?_set_self hep, he, Option.map_some, Option.some.injEq, EntL.pl, Prod.mk.injEq] at h2
        have h3 := congrArg (fun l => l[0]?) h2.2.2.2.2
        simp only [List.getElem?_set_self (show 0 < bs.length by omega), hb, Option.some.injEq, Prod.mk.injEq] at h3
        omega
    -->
  case rest =>
  unfold OwnMid at hcut
  obtain ⟨⟨k', fr', tt', life', seen', out', count', founder', hop', MA', ms', mc', EA', es2, ec'⟩, hx8, hc8, hcok, hne, hB8⟩ := hcut
  rw [HF0.out] at hx8
  have hx8 : Blk wc w.heap.size (frameL 2 fr tt life seen out count founder hop MA ms.length mc EA es.length ec) 64 := hx8
  have hc8 : Blk wc tc (frameL k' fr' tt' life' seen' out' count' founder' hop' MA' ms'.length mc' EA' es2.length ec') 64 := hc8
  have two : ∀ w', Blk w' w.heap.size (frameL 2 fr tt life seen out count founder hop MA ms.length mc EA es.length ec) 64 → Blk w' tc (frameL k' fr' tt' life' seen' out' count' founder' hop' MA' ms'.length mc' EA' es2.length ec') 64 → w'.cell? ⟨w.heap.size, 0, none⟩ = some (.int .i64 2) ∧ w'.cell? ⟨w.heap.size, 1, none⟩ = some (.int .i64 fr) ∧ w'.cell? ⟨w.heap.size, 2, none⟩ = some (.int .i64 tt) ∧ w'.cell? ⟨w.heap.size, 3, none⟩ = some (.int .i64 life) ∧ w'.cell? ⟨w.heap.size, 4, none⟩ = some (.int .i64 seen) ∧ w'.cell? ⟨w.heap.size, 5, none⟩ = some (.bool out) ∧ w'.cell? ⟨w.heap.size, 6, none⟩ = some (.int .i64 count) ∧ w'.cell? ⟨w.heap.size, 7, none⟩ = some (.int .i64 founder) ∧ w'.cell? ⟨w.heap.size, 8, none⟩ = some (.int .i64 hop) ∧ w'.cell? ⟨w.heap.size, 9, none⟩ = some (.slice MA ms.length mc) ∧ w'.cell? ⟨w.heap.size, 10, none⟩ = some (.slice EA es.length ec) ∧ w'.cell? ⟨tc, 0, none⟩ = some (.int .i64 k') ∧ w'.cell? ⟨tc, 1, none⟩ = some (.int .i64 fr') ∧ w'.cell? ⟨tc, 2, none⟩ = some (.int .i64 tt') ∧ w'.cell? ⟨tc, 3, none⟩ = some (.int .i64 life') ∧ w'.cell? ⟨tc, 4, none⟩ = some (.int .i64 seen') ∧ w'.cell? ⟨tc, 5, none⟩ = some (.bool out') ∧ w'.cell? ⟨tc, 6, none⟩ = some (.int .i64 count') ∧ w'.cell? ⟨tc, 7, none⟩ = some (.int .i64 founder') ∧ w'.cell? ⟨tc, 8, none⟩ = some (.int .i64 hop') ∧ w'.cell? ⟨tc, 9, none⟩ = some (.slice MA' ms'.length mc') ∧ w'.cell? ⟨tc, 10, none⟩ = some (.slice EA' es2.length ec') := fun w' hx hc => ⟨hx.cell 0, hx.cell 1, hx.cell 2, hx.cell 3, hx.cell 4, hx.cell 5, hx.cell 6, hx.cell 7, hx.cell 8, hx.cell 9, hx.cell 10, hc.cell 0, hc.cell 1, hc.cell 2, hc.cell 3, hc.cell 4, hc.cell 5, hc.cell 6, hc.cell 7, hc.cell 8, hc.cell 9, hc.cell 10⟩
  have hsm := sameF_any ⟨k', fr', tt', life', seen', out', count', founder', hop', MA', ms', mc', EA', es2, ec'⟩ f0 wc.drew (hcok.on (Below.refl _ _).drew) (HFO.out.1.on hB8.drew)
  rw [decide_eq_false hne, HFV.out] at hsm
  simp only [FrL.val] at hsm
  have hx8' := hx8.drew
  have hc8' := hc8.drew
  have hB8' := hB8.drew
  clear hcok hne HT hx8 hc8 hB8
  have HTW := hid two
  clear two
  have c0 : wc.drew.cell? ⟨w.heap.size, 0, none⟩ = some (.int .i64 2) := hx8'.cell 0
  have c1 : wc.drew.cell? ⟨w.heap.size, 1, none⟩ = some (.int .i64 fr) := hx8'.cell 1
  have c2 : wc.drew.cell? ⟨w.heap.size, 2, none⟩ = some (.int .i64 tt) := hx8'.cell 2
  have c3 : wc.drew.cell? ⟨w.heap.size, 3, none⟩ = some (.int .i64 life) := hx8'.cell 3
  have c4 : wc.drew.cell? ⟨w.heap.size, 4, none⟩ = some (.int .i64 seen) := hx8'.cell 4
  have c5 : wc.drew.cell? ⟨w.heap.size, 5, none⟩ = some (.bool out) := hx8'.cell 5
  have c6 : wc.drew.cell? ⟨w.heap.size, 6, none⟩ = some (.int .i64 count) := hx8'.cell 6
  have c7 : wc.drew.cell? ⟨w.heap.size, 7, none⟩ = some (.int .i64 founder) := hx8'.cell 7
  have c8 : wc.drew.cell? ⟨w.heap.size, 8, none⟩ = some (.int .i64 hop) := hx8'.cell 8
  have c9 : wc.drew.cell? ⟨w.heap.size, 9, none⟩ = some (.slice MA ms.length mc) := hx8'.cell 9
  have c10 : wc.drew.cell? ⟨w.heap.size, 10, none⟩ = some (.slice EA es.length ec) := hx8'.cell 10
  have d0 : wc.drew.cell? ⟨tc, 0, none⟩ = some (.int .i64 k') := hc8'.cell 0
  have d1 : wc.drew.cell? ⟨tc, 1, none⟩ = some (.int .i64 fr') := hc8'.cell 1
  have d2 : wc.drew.cell? ⟨tc, 2, none⟩ = some (.int .i64 tt') := hc8'.cell 2
  have d3 : wc.drew.cell? ⟨tc, 3, none⟩ = some (.int .i64 life') := hc8'.cell 3
  have d4 : wc.drew.cell? ⟨tc, 4, none⟩ = some (.int .i64 seen') := hc8'.cell 4
  have d5 : wc.drew.cell? ⟨tc, 5, none⟩ = some (.bool out') := hc8'.cell 5
  have d6 : wc.drew.cell? ⟨tc, 6, none⟩ = some (.int .i64 count') := hc8'.cell 6
  have d7 : wc.drew.cell? ⟨tc, 7, none⟩ = some (.int .i64 founder') := hc8'.cell 7
  have d8 : wc.drew.cell? ⟨tc, 8, none⟩ = some (.int .i64 hop') := hc8'.cell 8
  have d9 : wc.drew.cell? ⟨tc, 9, none⟩ = some (.slice MA' ms'.length mc') := hc8'.cell 9
  have d10 : wc.drew.cell? ⟨tc, 10, none⟩ = some (.slice EA' es2.length ec') := hc8'.cell 10
  go_wp2_with fail
  refine wp_region_held_drew (S := fun w' => w'.cell? ⟨w.heap.size, 0, none⟩ = some (.int .i64 2) ∧ w'.cell? ⟨w.heap.size, 1, none⟩ = some (.int .i64 fr) ∧ w'.cell? ⟨w.heap.size, 2, none⟩ = some (.int .i64 tt) ∧ w'.cell? ⟨w.heap.size, 3, none⟩ = some (.int .i64 life) ∧ w'.cell? ⟨w.heap.size, 4, none⟩ = some (.int .i64 seen) ∧ w'.cell? ⟨w.heap.size, 5, none⟩ = some (.bool out) ∧ w'.cell? ⟨w.heap.size, 6, none⟩ = some (.int .i64 count) ∧ w'.cell? ⟨w.heap.size, 7, none⟩ = some (.int .i64 founder) ∧ w'.cell? ⟨w.heap.size, 8, none⟩ = some (.int .i64 hop) ∧ w'.cell? ⟨w.heap.size, 9, none⟩ = some (.slice MA ms.length mc) ∧ w'.cell? ⟨w.heap.size, 10, none⟩ = some (.slice EA es.length ec) ∧ w'.cell? ⟨tc, 0, none⟩ = some (.int .i64 k') ∧ w'.cell? ⟨tc, 1, none⟩ = some (.int .i64 fr') ∧ w'.cell? ⟨tc, 2, none⟩ = some (.int .i64 tt') ∧ w'.cell? ⟨tc, 3, none⟩ = some (.int .i64 life') ∧ w'.cell? ⟨tc, 4, none⟩ = some (.int .i64 seen') ∧ w'.cell? ⟨tc, 5, none⟩ = some (.bool out') ∧ w'.cell? ⟨tc, 6, none⟩ = some (.int .i64 count') ∧ w'.cell? ⟨tc, 7, none⟩ = some (.int .i64 founder') ∧ w'.cell? ⟨tc, 8, none⟩ = some (.int .i64 hop') ∧ w'.cell? ⟨tc, 9, none⟩ = some (.slice MA' ms'.length mc') ∧ w'.cell? ⟨tc, 10, none⟩ = some (.slice EA' es2.length ec')) (by kernel_rfl) ?_ (fun hHeld => ?_)
  · (try dsimp only); (first | exact HTW.out _ hx8' hc8' | exact HTW.out _ hx9 hc9 | exact HTW.out _ hx10 hc10 | exact HTW.out _ hx11 hc11 | exact HTW.out _ hx12 hc12)
  refine held_take 0 ?_ rfl (by kernel_rfl) (by kernel_rfl) (by kernel_rfl) (fun _ _ _ h => h) (by rfl) ?_ hHeld ?_
  rotate_left
  · (intro w hSw; (try dsimp only at hSw); go_simp; try with_reducible rfl)
  try simp only [Act.put, List.setIfInBounds_toArray, List.set_cons_zero, List.set_cons_succ]
  refine held_take 1 ?_ rfl (by kernel_rfl) (by kernel_rfl) (by kernel_rfl) (fun _ _ _ h => h) (by rfl) ?_ hHeld ?_
  rotate_left
  · (intro w hSw; (try dsimp only at hSw); go_simp; try with_reducible rfl)
  try simp only [Act.put, List.setIfInBounds_toArray, List.set_cons_zero, List.set_cons_succ]
  refine held_take 2 ?_ rfl (by kernel_rfl) (by kernel_rfl) (by kernel_rfl) (fun _ _ _ h => h) (by rfl) ?_ hHeld ?_
  rotate_left
  · (intro w hSw; (try dsimp only at hSw); go_simp; try with_reducible rfl)
  try simp only [Act.put, List.setIfInBounds_toArray, List.set_cons_zero, List.set_cons_succ]
  refine held_take 3 ?_ rfl (by kernel_rfl) (by kernel_rfl) (by kernel_rfl) (fun _ _ _ h => h) (by rfl) ?_ hHeld ?_
  rotate_left
  · (intro w hSw; (try dsimp only at hSw); go_simp; try with_reducible rfl)
  try simp only [Act.put, List.setIfInBounds_toArray, List.set_cons_zero, List.set_cons_succ]
  refine held_one 4 rfl (by kernel_rfl) (by rfl) (fun K hK => ?_)
  go_simp
  refine hsm.mono ?_
  rintro e w9 ⟨rfl, hb9⟩
  have hx9 := (Eff.of_below (S := fun _ => False) hb9).blk hx8' (fun h => h)
  have hc9 := (Eff.of_below (S := fun _ => False) hb9).blk hc8' (fun h => h)
  have hB9 := hB8'.trans (hb9.mono hB8'.size)
  have hv9 := HCO.out.2.2 w9 (HFO.out.1.on hB9) (HFO.out.2.below hB9) HL.out
  rw [HF0.out] at hv9
  have hv9 : Calls Tryd.prog 32 #[.agg (frameV 2 fr tt life seen out count founder hop MA ms.length mc EA es.length ec)] w9 (GivesErrB ad w9 (frameE 2 fr tt life seen out count founder hop ms es)) := hv9
  rw [HV.out, GivesErrB_zero] at hv9
  clear c0 c1 c2 c3 c4 c5 c6 c7 c8 c9 c10 d0 d1 d2 d3 d4 d5 d6 d7 d8 d9 d10
  have c0 : w9.cell? ⟨w.heap.size, 0, none⟩ = some (.int .i64 2) := hx9.cell 0
  have c1 : w9.cell? ⟨w.heap.size, 1, none⟩ = some (.int .i64 fr) := hx9.cell 1
  have c2 : w9.cell? ⟨w.heap.size, 2, none⟩ = some (.int .i64 tt) := hx9.cell 2
  have c3 : w9.cell? ⟨w.heap.size, 3, none⟩ = some (.int .i64 life) := hx9.cell 3
  have c4 : w9.cell? ⟨w.heap.size, 4, none⟩ = some (.int .i64 seen) := hx9.cell 4
  have c5 : w9.cell? ⟨w.heap.size, 5, none⟩ = some (.bool out) := hx9.cell 5
  have c6 : w9.cell? ⟨w.heap.size, 6, none⟩ = some (.int .i64 count) := hx9.cell 6
  have c7 : w9.cell? ⟨w.heap.size, 7, none⟩ = some (.int .i64 founder) := hx9.cell 7
  have c8 : w9.cell? ⟨w.heap.size, 8, none⟩ = some (.int .i64 hop) := hx9.cell 8
  have c9 : w9.cell? ⟨w.heap.size, 9, none⟩ = some (.slice MA ms.length mc) := hx9.cell 9
  have c10 : w9.cell? ⟨w.heap.size, 10, none⟩ = some (.slice EA es.length ec) := hx9.cell 10
  refine hK.out _ _ ?_ (fun hHeld2 => ?_)
  · (try dsimp only); (first | exact HTW.out _ hx8' hc8' | exact HTW.out _ hx9 hc9 | exact HTW.out _ hx10 hc10 | exact HTW.out _ hx11 hc11 | exact HTW.out _ hx12 hc12)
  clear hK K hHeld
  have hHeld := hHeld2
  clear hHeld2
  try simp only [Act.put, List.setIfInBounds_toArray, List.set_cons_zero, List.set_cons_succ]
  refine held_take 5 ?_ rfl (by kernel_rfl) (by kernel_rfl) (by kernel_rfl) (fun _ _ _ h => h) (by rfl) ?_ hHeld ?_
  rotate_left
  · (intro w hSw; (try dsimp only at hSw); go_simp; try with_reducible rfl)
  try simp only [Act.put, List.setIfInBounds_toArray, List.set_cons_zero, List.set_cons_succ]
  refine held_take 6 ?_ rfl (by kernel_rfl) (by kernel_rfl) (by kernel_rfl) (fun _ _ _ h => h) (by rfl) ?_ hHeld ?_
  rotate_left
  · (intro w hSw; (try dsimp only at hSw); go_simp; try with_reducible rfl)
  try simp only [Act.put, List.setIfInBounds_toArray, List.set_cons_zero, List.set_cons_succ]
  refine held_take 7 ?_ rfl (by kernel_rfl) (by kernel_rfl) (by kernel_rfl) (fun _ _ _ h => h) (by rfl) ?_ hHeld ?_
  rotate_left
  · (intro w hSw; (try dsimp only at hSw); go_simp; try with_reducible rfl)
  try simp only [Act.put, List.setIfInBounds_toArray, List.set_cons_zero, List.set_cons_succ]
  refine held_take 8 ?_ rfl (by kernel_rfl) (by kernel_rfl) (by kernel_rfl) (fun _ _ _ h => h) (by rfl) ?_ hHeld ?_
  rotate_left
  · (intro w hSw; (try dsimp only at hSw); go_simp; try with_reducible rfl)
  try simp only [Act.put, List.setIfInBounds_toArray, List.set_cons_zero, List.set_cons_succ]
  refine held_one 9 rfl (by kernel_rfl) (by rfl) (fun K hK => ?_)
  go_simp
  refine hv9.mono ?_
  rintro e w10 ⟨rfl, hb10⟩
  have hx10 := (Eff.of_below (S := fun _ => False) hb10).blk hx9 (fun h => h)
  have hc10 := (Eff.of_below (S := fun _ => False) hb10).blk hc9 (fun h => h)
  have hB10 := hB9.trans (hb10.mono hB9.size)
  have hcl := HCO.out.2.1 w10 (HFO.out.1.on hB10) HL.out
  rw [HFV.out] at hcl
  clear c0 c1 c2 c3 c4 c5 c6 c7 c8 c9 c10
  have c0 : w10.cell? ⟨w.heap.size, 0, none⟩ = some (.int .i64 2) := hx10.cell 0
  have c1 : w10.cell? ⟨w.heap.size, 1, none⟩ = some (.int .i64 fr) := hx10.cell 1
  have c2 : w10.cell? ⟨w.heap.size, 2, none⟩ = some (.int .i64 tt) := hx10.cell 2
  have c3 : w10.cell? ⟨w.heap.size, 3, none⟩ = some (.int .i64 life) := hx10.cell 3
  have c4 : w10.cell? ⟨w.heap.size, 4, none⟩ = some (.int .i64 seen) := hx10.cell 4
  have c5 : w10.cell? ⟨w.heap.size, 5, none⟩ = some (.bool out) := hx10.cell 5
  have c6 : w10.cell? ⟨w.heap.size, 6, none⟩ = some (.int .i64 count) := hx10.cell 6
  have c7 : w10.cell? ⟨w.heap.size, 7, none⟩ = some (.int .i64 founder) := hx10.cell 7
  have c8 : w10.cell? ⟨w.heap.size, 8, none⟩ = some (.int .i64 hop) := hx10.cell 8
  have c9 : w10.cell? ⟨w.heap.size, 9, none⟩ = some (.slice MA ms.length mc) := hx10.cell 9
  have c10 : w10.cell? ⟨w.heap.size, 10, none⟩ = some (.slice EA es.length ec) := hx10.cell 10
  refine hK.out _ _ ?_ (fun hHeld2 => ?_)
  · (try dsimp only); (first | exact HTW.out _ hx8' hc8' | exact HTW.out _ hx9 hc9 | exact HTW.out _ hx10 hc10 | exact HTW.out _ hx11 hc11 | exact HTW.out _ hx12 hc12)
  clear hK K hHeld
  have hHeld := hHeld2
  clear hHeld2
  try simp only [Act.put, List.setIfInBounds_toArray, List.set_cons_zero, List.set_cons_succ]
  refine held_take 10 ?_ rfl (by kernel_rfl) (by kernel_rfl) (by kernel_rfl) (fun _ _ _ h => h) (by rfl) ?_ hHeld ?_
  rotate_left
  · (intro w hSw; (try dsimp only at hSw); go_simp; try with_reducible rfl)
  try simp only [Act.put, List.setIfInBounds_toArray, List.set_cons_zero, List.set_cons_succ]
  refine held_take 11 ?_ rfl (by kernel_rfl) (by kernel_rfl) (by kernel_rfl) (fun _ _ _ h => h) (by rfl) ?_ hHeld ?_
  rotate_left
  · (intro w hSw; (try dsimp only at hSw); go_simp; try with_reducible rfl)
  try simp only [Act.put, List.setIfInBounds_toArray, List.set_cons_zero, List.set_cons_succ]
  refine held_take 12 ?_ rfl (by kernel_rfl) (by kernel_rfl) (by kernel_rfl) (fun _ _ _ h => h) (by rfl) ?_ hHeld ?_
  rotate_left
  · (intro w hSw; (try dsimp only at hSw); go_simp; try with_reducible rfl)
  try simp only [Act.put, List.setIfInBounds_toArray, List.set_cons_zero, List.set_cons_succ]
  refine held_take 13 ?_ rfl (by kernel_rfl) (by kernel_rfl) (by kernel_rfl) (fun _ _ _ h => h) (by rfl) ?_ hHeld ?_
  rotate_left
  · (intro w hSw; (try dsimp only at hSw); go_simp; try with_reducible rfl)
  try simp only [Act.put, List.setIfInBounds_toArray, List.set_cons_zero, List.set_cons_succ]
  refine held_take 14 ?_ rfl (by kernel_rfl) (by kernel_rfl) (by kernel_rfl) (fun _ _ _ h => h) (by rfl) ?_ hHeld ?_
  rotate_left
  · (intro w hSw; (try dsimp only at hSw); go_simp; try with_reducible rfl)
  try simp only [Act.put, List.setIfInBounds_toArray, List.set_cons_zero, List.set_cons_succ]
  refine held_one 15 rfl (by kernel_rfl) (by rfl) (fun K hK => ?_)
  go_simp
  refine hcl.mono ?_
  rintro e w11 ⟨M5, m5c, E5, es5, e5c, he, hpl5, hown5, hb11⟩
  rw [HF0.out] at he hpl5 hown5
  have he : e = .returned (.agg (frameV 2 fr tt life seen out count founder hop M5 ms.length m5c E5 es5.length e5c)) := he
  subst he
  have hx11 := (Eff.of_below (S := fun _ => False) hb11).blk hx10 (fun h => h)
  have hc11 := (Eff.of_below (S := fun _ => False) hb11).blk hc10 (fun h => h)
  have hB11 := hB10.trans (hb11.mono hB10.size)
  have hrs := refSameF_any f0 ⟨2, fr, tt, life, seen, out, count, founder, hop, M5, ms, m5c, E5, es5, e5c⟩ w11 (HFO.out.1.on hB11) (hown5.ok 2 fr tt life seen out count founder hop)
  rw [decide_eq_true (by rw [HF0.out]; simp only [FrL.pl]; rw [← hpl5]), HFV.out] at hrs
  simp only [FrL.val] at hrs
  clear c0 c1 c2 c3 c4 c5 c6 c7 c8 c9 c10
  have c0 : w11.cell? ⟨w.heap.size, 0, none⟩ = some (.int .i64 2) := hx11.cell 0
  have c1 : w11.cell? ⟨w.heap.size, 1, none⟩ = some (.int .i64 fr) := hx11.cell 1
  have c2 : w11.cell? ⟨w.heap.size, 2, none⟩ = some (.int .i64 tt) := hx11.cell 2
  have c3 : w11.cell? ⟨w.heap.size, 3, none⟩ = some (.int .i64 life) := hx11.cell 3
  have c4 : w11.cell? ⟨w.heap.size, 4, none⟩ = some (.int .i64 seen) := hx11.cell 4
  have c5 : w11.cell? ⟨w.heap.size, 5, none⟩ = some (.bool out) := hx11.cell 5
  have c6 : w11.cell? ⟨w.heap.size, 6, none⟩ = some (.int .i64 count) := hx11.cell 6
  have c7 : w11.cell? ⟨w.heap.size, 7, none⟩ = some (.int .i64 founder) := hx11.cell 7
  have c8 : w11.cell? ⟨w.heap.size, 8, none⟩ = some (.int .i64 hop) := hx11.cell 8
  have c9 : w11.cell? ⟨w.heap.size, 9, none⟩ = some (.slice MA ms.length mc) := hx11.cell 9
  have c10 : w11.cell? ⟨w.heap.size, 10, none⟩ = some (.slice EA es.length ec) := hx11.cell 10
  refine hK.out _ _ ?_ (fun hHeld2 => ?_)
  · (try dsimp only); (first | exact HTW.out _ hx8' hc8' | exact HTW.out _ hx9 hc9 | exact HTW.out _ hx10 hc10 | exact HTW.out _ hx11 hc11 | exact HTW.out _ hx12 hc12)
  clear hK K hHeld
  have hHeld := hHeld2
  clear hHeld2
  try simp only [Act.put, List.setIfInBounds_toArray, List.set_cons_zero, List.set_cons_succ]
  refine held_one 16 rfl (by kernel_rfl) (by rfl) (fun K hK => ?_)
  go_simp
  refine hrs.mono ?_
  rintro e w12 ⟨rfl, hb12⟩
  have hx12 := (Eff.of_below (S := fun _ => False) hb12).blk hx11 (fun h => h)
  have hc12 := (Eff.of_below (S := fun _ => False) hb12).blk hc11 (fun h => h)
  have hB12 := hB11.trans (hb12.mono hB11.size)
  refine hK.out _ _ ?_ (fun hHeld2 => ?_)
  · (try dsimp only); (first | exact HTW.out _ hx8' hc8' | exact HTW.out _ hx9 hc9 | exact HTW.out _ hx10 hc10 | exact HTW.out _ hx11 hc11 | exact HTW.out _ hx12 hc12)
  clear hK K hHeld
  have hHeld := hHeld2
  clear hHeld2
  try simp only [Act.put, List.setIfInBounds_toArray, List.set_cons_zero, List.set_cons_succ]
  refine held_take 17 ?_ rfl (by kernel_rfl) (by kernel_rfl) (by kernel_rfl) (fun _ _ _ h => h) (by rfl) ?_ hHeld ?_
  rotate_left
  · (intro w hSw; (try dsimp only at hSw); go_simp; try with_reducible rfl)
  try simp only [Act.put, List.setIfInBounds_toArray, List.set_cons_zero, List.set_cons_succ]
  refine held_take 18 ?_ rfl (by kernel_rfl) (by kernel_rfl) (by kernel_rfl) (fun _ _ _ h => h) (by rfl) ?_ hHeld ?_
  rotate_left
  · (intro w hSw; (try dsimp only at hSw); go_simp; try with_reducible rfl)
  try simp only [Act.put, List.setIfInBounds_toArray, List.set_cons_zero, List.set_cons_succ]
  refine wpAnyH_done (by kernel_rfl) ?_ _
  clear hHeld
  go_wp2_with fail
  go_ret
  exact ⟨rfl, hB12⟩
end Go.Proofs.YtogcbiooddodlaaDoor
