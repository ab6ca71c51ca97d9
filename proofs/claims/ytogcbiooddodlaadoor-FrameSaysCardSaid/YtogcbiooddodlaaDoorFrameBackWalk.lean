/- FrameBack: the walk. -/
import Derived.Test.YtogcbiooddodlaaDoorFrameReadAny
import Derived.WideLaws
namespace Go.Proofs.YtogcbiooddodlaaDoor
open Go.RowKit
set_option linter.unusedSimpArgs false

theorem read_cases {ad : Int → Addr} {w : World} {g : FrL} {ev : Value} {R : RF} (h : ReadOut ad w g ev R) : (ev = .nilIface ∧ R = .ok g.pl) ∨ ((∃ T v, ev = .iface T v) ∧ ∀ f, R ≠ .ok f) := by
  cases R with
  | ok f => exact .inl ⟨h.1, by rw [h.2]⟩
  | bare c => exact .inr ⟨⟨_, _, h.1.trans (errV_ne ad h.2.1)⟩, fun f => by simp⟩
  | «at» c p => obtain ⟨⟨B, h1, _⟩, _⟩ := h; exact .inr ⟨⟨_, _, h1⟩, fun f => by simp⟩
theorem eql_nil_any {ev : Value} {R : RF} {g : FrL} (h : (ev = .nilIface ∧ R = .ok g.pl) ∨ ((∃ T v, ev = .iface T v) ∧ ∀ f, R ≠ .ok f)) : ∃ b : Bool, (∀ (x : Operand) w, (eqGuard .eql 32 x (.const .nilIface) ev .nilIface).run Tryd.prog w = .ok () w) ∧ (∀ w, (binOp .eql 32 ev .nilIface).run Tryd.prog w = .ok (.bool b) w) ∧ (b = true → ev = .nilIface ∧ R = .ok g.pl) := by
  rcases h with ⟨rfl, h⟩ | ⟨⟨T, v, rfl⟩, _⟩
  · exact ⟨true, fun x w => by simp [eqGuard], fun w => run_eql_nil_nil w 32 (by kernel_rfl), fun _ => ⟨rfl, h⟩⟩
  · exact ⟨false, fun x w => by simp [eqGuard], fun w => run_eql_held_nil w 32 T v (by kernel_rfl), fun h => by cases h⟩
theorem sl_take {w : World} {A : Option Addr} {vs : List Value} (h : Sl w A vs) (n : Nat) : Sl w A (vs.take n) := by
  rcases h with rfl | ⟨b, o, h1, h2, h3⟩
  · exact .inl (by simp)
  · exact .inr ⟨b, o, h1, h2, fun k hk => by
      rw [List.length_take] at hk
      rw [h3 k (by omega), List.getElem?_take, if_pos (by omega)]⟩
theorem ring_fr {w : World} {g : FrL} (h : RingIs w g.MA g.ms g.EA g.es) : FrOk w g := ⟨h.mem, h.ent, h.bid, by have := h.lens.1; unfold maxLen; omega, by have := h.lens.2.1; unfold maxLen; omega, fun e he => by have := h.lens.2.2 e he; unfold maxLen; omega⟩
abbrev FrL.E (f : FrL) : Int := frameE f.kind f.fr f.tt f.life f.seen f.out f.count f.founder f.hop f.ms f.es
abbrev FrL.B (f : FrL) : List Int := cat (frameNs f.kind f.fr f.tt f.life f.seen f.out f.count f.founder f.hop f.ms f.es)
theorem E_pl {f g : FrL} (h : f.pl = g.pl) : f.E = g.E := by rw [FrL.E, FrL.E, ← frameEP_pl, ← frameEP_pl, h]
theorem B_pl {f g : FrL} (h : f.pl = g.pl) : f.B = g.B := by rw [FrL.B, FrL.B, ← frameNsP_pl, ← frameNsP_pl, h]
theorem read_B {f : FrL} (h : f.E = 0) (rest : List Int) : readR (f.B ++ rest) = if rest = [] then .ok f.pl else .bare 102 := by
  rw [FrL.B, ← frameNsP_pl]
  exact readR_cat ((frameEP_pl f).trans h) rest
theorem read_B0 {f : FrL} (h : f.E = 0) : readR f.B = .ok f.pl := by
  have := read_B h []
  rwa [List.append_nil, if_pos rfl] at this
theorem B_inj {f g : FrL} (hf : f.E = 0) (hg : g.E = 0) : decide (f.B = g.B) = decide (f.pl = g.pl) := by
  rw [Bool.eq_iff_iff, decide_eq_true_eq, decide_eq_true_eq]
  constructor
  · intro h
    have h1 := read_B0 hf
    rw [h, read_B0 hg] at h1
    injection h1 with h1
    exact h1.symm
  · exact B_pl
theorem read_cut {f : FrL} (hf : f.E = 0) {k : Nat} (hk : k < f.B.length) : ∀ x, readR (f.B.take k) ≠ .ok x := by
  intro x h
  obtain ⟨h1, h2⟩ := readR_ok (fun b hb => cat_b _ b (List.mem_of_mem_take hb)) h
  have h3 := readR_cat h2 (f.B.drop k)
  rw [← h1, List.take_append_drop, read_B0 hf] at h3
  rw [if_neg (by
    intro h4
    have := congrArg List.length h4
    rw [List.length_drop, List.length_nil] at this
    omega)] at h3
  cases h3
theorem B_len {f : FrL} (hf : f.E = 0) : 0 < f.B.length ∧ f.B.length ≤ 60000 := by
  have hin := frameNs_in hf
  have hl := cat_len hin
  constructor
  · refine cat_pos ?_
    unfold frameNs
    split
    · simp
    · simp
  · obtain ⟨_, _, h | h⟩ := frameE_valid hf
    · have : (frameNs f.kind f.fr f.tt f.life f.seen f.out f.count f.founder f.hop f.ms f.es).length = 7 := by unfold frameNs; rw [if_pos h.1]; rfl
      show (cat _).length ≤ _
      omega
    · have h2 := ringNs_len h.2.2.2.2
      have : (frameNs f.kind f.fr f.tt f.life f.seen f.out f.count f.founder f.hop f.ms f.es).length = 4 + (ringNs f.count f.founder f.hop f.ms f.es).length := by unfold frameNs; rw [if_neg (by rw [h.1]; decide), List.length_append]; rfl
      show (cat _).length ≤ _
      omega
theorem validL {ad : Int → Addr} (f : FrL) (w : World) (hE : ErrsV ad w) (hR : RingIs w f.MA f.ms f.EA f.es) : Calls Tryd.prog 32 #[f.val] w (GivesErrB ad w f.E) := validF_any f.kind f.fr f.tt f.life f.seen f.out f.count f.founder f.hop f.MA f.mc f.ms f.EA f.ec f.es w hE hR
/-- Bytes of any frame. -/
def GivesBy (ad : Int → Addr) (w : World) (f : FrL) (e : Ending) (w' : World) : Prop := ∃ (A : Option Addr) (n c : Nat) (ev : Value), e = .returned (.tuple #[.slice A n c, ev]) ∧ Below w.heap.size w w' ∧ (f.E = 0 → ev = .nilIface ∧ n = f.B.length ∧ SlC w' A c f.B) ∧ (f.E ≠ 0 → ev = .iface 136 (.pointer (some (ad f.E))))
theorem bytesL {ad : Int → Addr} (f : FrL) (w : World) (hE : ErrsV ad w) (hR : RingIs w f.MA f.ms f.EA f.es) : Calls Tryd.prog 33 #[f.val] w (GivesBy ad w f) := by
  by_cases h0 : f.E = 0
  · refine (bytesF_any (ad := ad) f.kind f.fr f.tt f.life f.seen f.out f.count f.founder f.hop f.MA f.mc f.ms f.EA f.ec f.es w hE hR h0).mono ?_
    rintro e w' ⟨A, c, he, hs, hb⟩
    exact ⟨A, _, c, .nilIface, he, hb, fun _ => ⟨rfl, rfl, hs⟩, fun h => absurd h0 h⟩
  · refine (bytesBadF_any (ad := ad) f.kind f.fr f.tt f.life f.seen f.out f.count f.founder f.hop f.MA f.mc f.ms f.EA f.ec f.es w hE hR f.E rfl h0).mono ?_
    rintro e w' ⟨he, hb⟩
    exact ⟨none, 0, 0, _, he, hb, fun h => absurd h h0, fun _ => errV_ne ad h0⟩
def BackMid (W : World) (f g : FrL) (tf gb : Nat) (wx : World) : Prop := Blk wx tf f.cells 64 ∧ Blk wx gb g.cells 64 ∧ Below W.heap.size W wx
attribute [irreducible] BackMid
set_option maxRecDepth 100000 in
set_option maxHeartbeats 16000000 in
theorem frameBack_walk {ad : Int → Addr} (f g : FrL) (A : Option Addr) (c : Nat) (bs : List Int) (a3 : Int) (w : World) (hf : FrOk w f) (hg : FrOk w g) (hs : Sl w A (bs.map (Value.int .u8))) (hml : bs.length ≤ 9223372036854775807) (hBb : IsB bs) (hE : ErrsF ad w) :
    Calls Tryd.prog 12 #[f.val, g.val, .slice A bs.length c, .int .i64 a3] w (SaysTrue w) := by
  obtain ⟨w1, hw1⟩ : ∃ w1, w1 = (w.alloc (.cells #[.int .i64 f.kind, .int .i64 f.fr, .int .i64 f.tt, .int .i64 f.life, .int .i64 f.seen, .bool f.out, .int .i64 f.count, .int .i64 f.founder, .int .i64 f.hop, .slice f.MA f.ms.length f.mc, .slice f.EA f.es.length f.ec] 64)).alloc (.cells #[.int .i64 g.kind, .int .i64 g.fr, .int .i64 g.tt, .int .i64 g.life, .int .i64 g.seen, .bool g.out, .int .i64 g.count, .int .i64 g.founder, .int .i64 g.hop, .slice g.MA g.ms.length g.mc, .slice g.EA g.es.length g.ec] 64) := ⟨_, rfl⟩
  have hB1 : Below w.heap.size w w1 := by rw [hw1]; exact ((Below.refl _ _).alloc (Nat.le_refl _) _).alloc (by simp) _
  have x1 : Blk w1 w.heap.size [.int .i64 f.kind, .int .i64 f.fr, .int .i64 f.tt, .int .i64 f.life, .int .i64 f.seen, .bool f.out, .int .i64 f.count, .int .i64 f.founder, .int .i64 f.hop, .slice f.MA f.ms.length f.mc, .slice f.EA f.es.length f.ec] 64 := by rw [hw1]; exact (Blk.new w _ _).alloc _
  have y1 : Blk w1 (w.heap.size + 1) [.int .i64 g.kind, .int .i64 g.fr, .int .i64 g.tt, .int .i64 g.life, .int .i64 g.seen, .bool g.out, .int .i64 g.count, .int .i64 g.founder, .int .i64 g.hop, .slice g.MA g.ms.length g.mc, .slice g.EA g.es.length g.ec] 64 := by
    rw [hw1, show w.heap.size + 1 = (w.alloc (.cells #[.int .i64 f.kind, .int .i64 f.fr, .int .i64 f.tt, .int .i64 f.life, .int .i64 f.seen, .bool f.out, .int .i64 f.count, .int .i64 f.founder, .int .i64 f.hop, .slice f.MA f.ms.length f.mc, .slice f.EA f.es.length f.ec] 64)).heap.size from by simp]
    exact Blk.new _ _ _
  have hfirst := first5V_any (ad := ad) w1 (hE.valid.below hB1)
  have H0 := hid (And.intro hf (And.intro hg (And.intro hs (And.intro hBb hE))))
  clear hf hg hs hE
  go_enter Tryd.func12, Tryd.ntmps12
  go_upto_region 1 with (fail)
  rw [← hw1]
  clear hw1
  obtain ⟨gb, hgb⟩ : ∃ gb, gb = w.heap.size + 1 := ⟨_, rfl⟩
  rw [← hgb] at y1 ⊢
  have hgbw : w.heap.size < gb := by omega
  clear hgb
  go_wp2_with fail
  refine hfirst.mono ?_
  rintro e w2 ⟨rfl, hb2⟩
  have x2 := (Eff.of_below (S := fun _ => False) hb2).blk x1 (fun h => h)
  have y2 := (Eff.of_below (S := fun _ => False) hb2).blk y1 (fun h => h)
  have B2 := hB1.trans (hb2.mono hB1.size)
  clear hfirst hb2 x1 y1 hB1
  by_cases h600 : bs.length ≤ 600
  case neg =>
    have h600' : (600 : Int) < bs.length := by omega
    go_wp2_with fail
    go_ret
    exact ⟨rfl, B2⟩
  have h600' : ¬ (600 : Int) < bs.length := by omega
  have hlf := light_any f w2 (H0.out.1.on B2)
  cases hLf : f.light
  case false =>
    rw [hLf] at hlf
    have c0 : w2.cell? ⟨w.heap.size, 0, none⟩ = some (.int .i64 f.kind) := x2.cell 0
    have c1 : w2.cell? ⟨w.heap.size, 1, none⟩ = some (.int .i64 f.fr) := x2.cell 1
    have c2 : w2.cell? ⟨w.heap.size, 2, none⟩ = some (.int .i64 f.tt) := x2.cell 2
    have c3 : w2.cell? ⟨w.heap.size, 3, none⟩ = some (.int .i64 f.life) := x2.cell 3
    have c4 : w2.cell? ⟨w.heap.size, 4, none⟩ = some (.int .i64 f.seen) := x2.cell 4
    have c5 : w2.cell? ⟨w.heap.size, 5, none⟩ = some (.bool f.out) := x2.cell 5
    have c6 : w2.cell? ⟨w.heap.size, 6, none⟩ = some (.int .i64 f.count) := x2.cell 6
    have c7 : w2.cell? ⟨w.heap.size, 7, none⟩ = some (.int .i64 f.founder) := x2.cell 7
    have c8 : w2.cell? ⟨w.heap.size, 8, none⟩ = some (.int .i64 f.hop) := x2.cell 8
    have c9 : w2.cell? ⟨w.heap.size, 9, none⟩ = some (.slice f.MA f.ms.length f.mc) := x2.cell 9
    have c10 : w2.cell? ⟨w.heap.size, 10, none⟩ = some (.slice f.EA f.es.length f.ec) := x2.cell 10
    clear hLf
    go_wp2_with fail
    refine hlf.mono ?_
    rintro e w3 ⟨rfl, hb3⟩
    have B3 := B2.trans (hb3.mono B2.size)
    go_wp2_with fail
    go_ret
    exact ⟨rfl, B3⟩
  rw [hLf] at hlf
  have c0 : w2.cell? ⟨w.heap.size, 0, none⟩ = some (.int .i64 f.kind) := x2.cell 0
  have c1 : w2.cell? ⟨w.heap.size, 1, none⟩ = some (.int .i64 f.fr) := x2.cell 1
  have c2 : w2.cell? ⟨w.heap.size, 2, none⟩ = some (.int .i64 f.tt) := x2.cell 2
  have c3 : w2.cell? ⟨w.heap.size, 3, none⟩ = some (.int .i64 f.life) := x2.cell 3
  have c4 : w2.cell? ⟨w.heap.size, 4, none⟩ = some (.int .i64 f.seen) := x2.cell 4
  have c5 : w2.cell? ⟨w.heap.size, 5, none⟩ = some (.bool f.out) := x2.cell 5
  have c6 : w2.cell? ⟨w.heap.size, 6, none⟩ = some (.int .i64 f.count) := x2.cell 6
  have c7 : w2.cell? ⟨w.heap.size, 7, none⟩ = some (.int .i64 f.founder) := x2.cell 7
  have c8 : w2.cell? ⟨w.heap.size, 8, none⟩ = some (.int .i64 f.hop) := x2.cell 8
  have c9 : w2.cell? ⟨w.heap.size, 9, none⟩ = some (.slice f.MA f.ms.length f.mc) := x2.cell 9
  have c10 : w2.cell? ⟨w.heap.size, 10, none⟩ = some (.slice f.EA f.es.length f.ec) := x2.cell 10
  have HLf := hid hLf
  clear hLf
  go_wp2_with fail
  refine hlf.mono ?_
  rintro e w3 ⟨rfl, hb3⟩
  have x3 := (Eff.of_below (S := fun _ => False) hb3).blk x2 (fun h => h)
  have y3 := (Eff.of_below (S := fun _ => False) hb3).blk y2 (fun h => h)
  have B3 := B2.trans (hb3.mono B2.size)
  clear hlf hb3 x2 y2 B2 c0 c1 c2 c3 c4 c5 c6 c7 c8 c9 c10
  have d0 : w3.cell? ⟨gb, 0, none⟩ = some (.int .i64 g.kind) := y3.cell 0
  have d1 : w3.cell? ⟨gb, 1, none⟩ = some (.int .i64 g.fr) := y3.cell 1
  have d2 : w3.cell? ⟨gb, 2, none⟩ = some (.int .i64 g.tt) := y3.cell 2
  have d3 : w3.cell? ⟨gb, 3, none⟩ = some (.int .i64 g.life) := y3.cell 3
  have d4 : w3.cell? ⟨gb, 4, none⟩ = some (.int .i64 g.seen) := y3.cell 4
  have d5 : w3.cell? ⟨gb, 5, none⟩ = some (.bool g.out) := y3.cell 5
  have d6 : w3.cell? ⟨gb, 6, none⟩ = some (.int .i64 g.count) := y3.cell 6
  have d7 : w3.cell? ⟨gb, 7, none⟩ = some (.int .i64 g.founder) := y3.cell 7
  have d8 : w3.cell? ⟨gb, 8, none⟩ = some (.int .i64 g.hop) := y3.cell 8
  have d9 : w3.cell? ⟨gb, 9, none⟩ = some (.slice g.MA g.ms.length g.mc) := y3.cell 9
  have d10 : w3.cell? ⟨gb, 10, none⟩ = some (.slice g.EA g.es.length g.ec) := y3.cell 10
  have hlg := light_any g w3 (H0.out.2.1.on B3)
  cases hLg : g.light
  case false =>
    rw [hLg] at hlg
    clear hLg
    go_wp2_with fail
    refine hlg.mono ?_
    rintro e w4 ⟨rfl, hb4⟩
    have B4 := B3.trans (hb4.mono B3.size)
    go_wp2_with fail
    go_ret
    exact ⟨rfl, B4⟩
  rw [hLg] at hlg
  have HLg := hid hLg
  clear hLg
  go_wp2_with fail
  refine hlg.mono ?_
  rintro e w4 ⟨rfl, hb4⟩
  have x4 := (Eff.of_below (S := fun _ => False) hb4).blk x3 (fun h => h)
  have y4 := (Eff.of_below (S := fun _ => False) hb4).blk y3 (fun h => h)
  have B4 := B3.trans (hb4.mono B3.size)
  clear hlg hb4 x3 y3 B3 d0 d1 d2 d3 d4 d5 d6 d7 d8 d9 d10
  have hrd := readF_any (ad := ad) A c bs w4 (H0.out.2.2.2.2.below B4) (It2 H0.out.2.2.1 B4) H0.out.2.2.2.1 (by omega)
  go_wp2_with fail
  refine hrd.mono ?_
  rintro e w5 ⟨z, ev, rfl, hring, hro, hb5⟩
  have x5 := (Eff.of_below (S := fun _ => False) hb5).blk x4 (fun h => h)
  have y5 := (Eff.of_below (S := fun _ => False) hb5).blk y4 (fun h => h)
  have B5 := B4.trans (hb5.mono B4.size)
  have hrc := read_cases hro
  clear hrd hb5 x4 y4 B4 hro
  obtain ⟨b, hbg, hbq, hbt⟩ := eql_nil_any hrc
  have HBT := hid hbt
  clear hrc hbt
  go_upto_if 47 with (first | rw [hbq] | rw [hbg])
  have hb6 : Below w5.heap.size w5 (w5.alloc (.cells #[.int .i64 z.kind, .int .i64 z.fr, .int .i64 z.tt, .int .i64 z.life, .int .i64 z.seen, .bool z.out, .int .i64 z.count, .int .i64 z.founder, .int .i64 z.hop, .slice z.MA z.ms.length z.mc, .slice z.EA z.es.length z.ec] 64)) := (Below.refl _ _).alloc (Nat.le_refl _) _
  have z6 : Blk (w5.alloc (.cells #[.int .i64 z.kind, .int .i64 z.fr, .int .i64 z.tt, .int .i64 z.life, .int .i64 z.seen, .bool z.out, .int .i64 z.count, .int .i64 z.founder, .int .i64 z.hop, .slice z.MA z.ms.length z.mc, .slice z.EA z.es.length z.ec] 64)) w5.heap.size [.int .i64 z.kind, .int .i64 z.fr, .int .i64 z.tt, .int .i64 z.life, .int .i64 z.seen, .bool z.out, .int .i64 z.count, .int .i64 z.founder, .int .i64 z.hop, .slice z.MA z.ms.length z.mc, .slice z.EA z.es.length z.ec] 64 := Blk.new w5 _ _
  have x6 := (Eff.of_below (S := fun _ => False) hb6).blk x5 (fun h => h)
  have y6 := (Eff.of_below (S := fun _ => False) hb6).blk y5 (fun h => h)
  have B6 := B5.trans (hb6.mono B5.size)
  have ring6 := hring.on hb6
  generalize w5.alloc (.cells #[.int .i64 z.kind, .int .i64 z.fr, .int .i64 z.tt, .int .i64 z.life, .int .i64 z.seen, .bool z.out, .int .i64 z.count, .int .i64 z.founder, .int .i64 z.hop, .slice z.MA z.ms.length z.mc, .slice z.EA z.es.length z.ec] 64) = w6 at *
  generalize w5.heap.size = zb at *
  clear hb6 x5 y5 B5 hring
  go_cut [] (fun wx => BackMid w f g w.heap.size gb wx)
  case first =>
    --<
    cases b
    case true =>
      obtain ⟨rfl, hrd⟩ := HBT.out rfl
      clear hbq hbg
      have hbz := readR_ok H0.out.2.2.2.1 hrd
      have hzE : z.E = 0 := (frameEP_pl z).symm.trans hbz.2
      have hzB : bs = z.B := by rw [hbz.1, frameNsP_pl]
      have hby := bytesL (ad := ad) z w6 (H0.out.2.2.2.2.valid.below B6) ring6
      have k0 : w6.cell? ⟨zb, 0, none⟩ = some (.int .i64 z.kind) := z6.cell 0
      have k1 : w6.cell? ⟨zb, 1, none⟩ = some (.int .i64 z.fr) := z6.cell 1
      have k2 : w6.cell? ⟨zb, 2, none⟩ = some (.int .i64 z.tt) := z6.cell 2
      have k3 : w6.cell? ⟨zb, 3, none⟩ = some (.int .i64 z.life) := z6.cell 3
      have k4 : w6.cell? ⟨zb, 4, none⟩ = some (.int .i64 z.seen) := z6.cell 4
      have k5 : w6.cell? ⟨zb, 5, none⟩ = some (.bool z.out) := z6.cell 5
      have k6 : w6.cell? ⟨zb, 6, none⟩ = some (.int .i64 z.count) := z6.cell 6
      have k7 : w6.cell? ⟨zb, 7, none⟩ = some (.int .i64 z.founder) := z6.cell 7
      have k8 : w6.cell? ⟨zb, 8, none⟩ = some (.int .i64 z.hop) := z6.cell 8
      have k9 : w6.cell? ⟨zb, 9, none⟩ = some (.slice z.MA z.ms.length z.mc) := z6.cell 9
      have k10 : w6.cell? ⟨zb, 10, none⟩ = some (.slice z.EA z.es.length z.ec) := z6.cell 10
      have HZ := hid (And.intro hzE (And.intro hzB (And.intro x6 (And.intro y6 (And.intro z6 (And.intro B6 ring6))))))
      clear hrd hbz hzE hzB x6 y6 z6 B6 ring6
      go_wp2_with fail
      refine hby.mono ?_
      rintro e w7 ⟨A7, n7, c7, ev7, rfl, hb7, hg7, _⟩
      obtain ⟨rfl, rfl, hs7⟩ := hg7 HZ.out.1
      obtain ⟨hzE, hzB, x6, y6, z6, B6, ring6⟩ := HZ.out
      have x7 := (Eff.of_below (S := fun _ => False) hb7).blk x6 (fun h => h)
      have y7 := (Eff.of_below (S := fun _ => False) hb7).blk y6 (fun h => h)
      have z7 := (Eff.of_below (S := fun _ => False) hb7).blk z6 (fun h => h)
      have B7 := B6.trans (hb7.mono B6.size)
      have hvl := validL (ad := ad) z w7 (H0.out.2.2.2.2.valid.below B7) (ring6.on hb7)
      rw [hzE, GivesErrB_zero] at hvl
      clear hby hg7 k0 k1 k2 k3 k4 k5 k6 k7 k8 k9 k10
      have k0 : w7.cell? ⟨zb, 0, none⟩ = some (.int .i64 z.kind) := z7.cell 0
      have k1 : w7.cell? ⟨zb, 1, none⟩ = some (.int .i64 z.fr) := z7.cell 1
      have k2 : w7.cell? ⟨zb, 2, none⟩ = some (.int .i64 z.tt) := z7.cell 2
      have k3 : w7.cell? ⟨zb, 3, none⟩ = some (.int .i64 z.life) := z7.cell 3
      have k4 : w7.cell? ⟨zb, 4, none⟩ = some (.int .i64 z.seen) := z7.cell 4
      have k5 : w7.cell? ⟨zb, 5, none⟩ = some (.bool z.out) := z7.cell 5
      have k6 : w7.cell? ⟨zb, 6, none⟩ = some (.int .i64 z.count) := z7.cell 6
      have k7 : w7.cell? ⟨zb, 7, none⟩ = some (.int .i64 z.founder) := z7.cell 7
      have k8 : w7.cell? ⟨zb, 8, none⟩ = some (.int .i64 z.hop) := z7.cell 8
      have k9 : w7.cell? ⟨zb, 9, none⟩ = some (.slice z.MA z.ms.length z.mc) := z7.cell 9
      have k10 : w7.cell? ⟨zb, 10, none⟩ = some (.slice z.EA z.es.length z.ec) := z7.cell 10
      have HZ7 := hid (And.intro x7 (And.intro y7 (And.intro B7 hs7)))
      clear hzE hzB x6 y6 z6 B6 ring6 x7 y7 z7 B7 hs7 hb7
      generalize hzl : z.B.length = zl at *
      have HZL := hid hzl
      clear hzl
      go_wp2_with fail
      refine hvl.mono ?_
      rintro e w8 ⟨rfl, hb8⟩
      have hsm := sameBytes_any A A7 c c7 bs z.B w8 (It2 H0.out.2.2.1 (HZ7.out.2.2.1.trans (hb8.mono HZ7.out.2.2.1.size))) (It2 HZ7.out.2.2.2.1 hb8) (by unfold maxLen; omega) (by rw [← HZ.out.2.1]; unfold maxLen; omega)
      rw [decide_eq_true HZ.out.2.1, HZL.out] at hsm
      have HB8 := hid hb8
      clear hvl hb8 k0 k1 k2 k3 k4 k5 k6 k7 k8 k9 k10
      go_wp2_with fail
      refine hsm.mono ?_
      rintro e w9 ⟨rfl, q9, rfl⟩
      have hb9 := HB8.out.trans ((below_drewN (Below.refl w8.heap.size w8) q9).mono HB8.out.size)
      have HB9 := hid hb9
      clear hb9 hsm
      go_wp2_with fail
      go_meet
      unfold BackMid
      exact ⟨(Eff.of_below (S := fun _ => False) HB9.out).blk HZ7.out.1 (fun h => h), (Eff.of_below (S := fun _ => False) HB9.out).blk HZ7.out.2.1 (fun h => h), HZ7.out.2.2.1.trans (HB9.out.mono HZ7.out.2.2.1.size)⟩
    case false =>
      have HM := hid (And.intro x6 (And.intro y6 B6))
      clear x6 y6 z6 B6 ring6
      go_wp2_with fail
      go_meet
      unfold BackMid
      exact HM.out
    -->
  case rest =>
  unfold BackMid at hcut
  obtain ⟨x6, y6, B6⟩ := hcut
  have hRf := H0.out.1.ring HLf.out
  have hRg := H0.out.2.1.ring HLg.out
  clear hbg hbq
  have x6 : Blk wc w.heap.size [.int .i64 f.kind, .int .i64 f.fr, .int .i64 f.tt, .int .i64 f.life, .int .i64 f.seen, .bool f.out, .int .i64 f.count, .int .i64 f.founder, .int .i64 f.hop, .slice f.MA f.ms.length f.mc, .slice f.EA f.es.length f.ec] 64 := x6
  have y6 : Blk wc gb [.int .i64 g.kind, .int .i64 g.fr, .int .i64 g.tt, .int .i64 g.life, .int .i64 g.seen, .bool g.out, .int .i64 g.count, .int .i64 g.founder, .int .i64 g.hop, .slice g.MA g.ms.length g.mc, .slice g.EA g.es.length g.ec] 64 := y6
  have hby := bytesL (ad := ad) f wc (H0.out.2.2.2.2.valid.below B6) (hRf.on B6)
  have c0 : wc.cell? ⟨w.heap.size, 0, none⟩ = some (.int .i64 f.kind) := x6.cell 0
  have c1 : wc.cell? ⟨w.heap.size, 1, none⟩ = some (.int .i64 f.fr) := x6.cell 1
  have c2 : wc.cell? ⟨w.heap.size, 2, none⟩ = some (.int .i64 f.tt) := x6.cell 2
  have c3 : wc.cell? ⟨w.heap.size, 3, none⟩ = some (.int .i64 f.life) := x6.cell 3
  have c4 : wc.cell? ⟨w.heap.size, 4, none⟩ = some (.int .i64 f.seen) := x6.cell 4
  have c5 : wc.cell? ⟨w.heap.size, 5, none⟩ = some (.bool f.out) := x6.cell 5
  have c6 : wc.cell? ⟨w.heap.size, 6, none⟩ = some (.int .i64 f.count) := x6.cell 6
  have c7 : wc.cell? ⟨w.heap.size, 7, none⟩ = some (.int .i64 f.founder) := x6.cell 7
  have c8 : wc.cell? ⟨w.heap.size, 8, none⟩ = some (.int .i64 f.hop) := x6.cell 8
  have c9 : wc.cell? ⟨w.heap.size, 9, none⟩ = some (.slice f.MA f.ms.length f.mc) := x6.cell 9
  have c10 : wc.cell? ⟨w.heap.size, 10, none⟩ = some (.slice f.EA f.es.length f.ec) := x6.cell 10
  go_wp2_with fail
  refine hby.mono ?_
  rintro e w7 ⟨A7, n7, k7, ev7, rfl, hb7, hgood7, hbad7⟩
  have x7 := (Eff.of_below (S := fun _ => False) hb7).blk x6 (fun h => h)
  have y7 := (Eff.of_below (S := fun _ => False) hb7).blk y6 (fun h => h)
  have B7 := B6.trans (hb7.mono B6.size)
  clear hby hb7 x6 y6 B6 c0 c1 c2 c3 c4 c5 c6 c7 c8 c9 c10
  have hby := bytesL (ad := ad) g w7 (H0.out.2.2.2.2.valid.below B7) (hRg.on B7)
  have d0 : w7.cell? ⟨gb, 0, none⟩ = some (.int .i64 g.kind) := y7.cell 0
  have d1 : w7.cell? ⟨gb, 1, none⟩ = some (.int .i64 g.fr) := y7.cell 1
  have d2 : w7.cell? ⟨gb, 2, none⟩ = some (.int .i64 g.tt) := y7.cell 2
  have d3 : w7.cell? ⟨gb, 3, none⟩ = some (.int .i64 g.life) := y7.cell 3
  have d4 : w7.cell? ⟨gb, 4, none⟩ = some (.int .i64 g.seen) := y7.cell 4
  have d5 : w7.cell? ⟨gb, 5, none⟩ = some (.bool g.out) := y7.cell 5
  have d6 : w7.cell? ⟨gb, 6, none⟩ = some (.int .i64 g.count) := y7.cell 6
  have d7 : w7.cell? ⟨gb, 7, none⟩ = some (.int .i64 g.founder) := y7.cell 7
  have d8 : w7.cell? ⟨gb, 8, none⟩ = some (.int .i64 g.hop) := y7.cell 8
  have d9 : w7.cell? ⟨gb, 9, none⟩ = some (.slice g.MA g.ms.length g.mc) := y7.cell 9
  have d10 : w7.cell? ⟨gb, 10, none⟩ = some (.slice g.EA g.es.length g.ec) := y7.cell 10
  have HG7 := hid (And.intro hgood7 hbad7)
  clear hgood7 hbad7
  go_wp2_with fail
  refine hby.mono ?_
  rintro e w8 ⟨A8, n8, k8, ev8, rfl, hb8, hgood8, hbad8⟩
  have x8 := (Eff.of_below (S := fun _ => False) hb8).blk x7 (fun h => h)
  have y8 := (Eff.of_below (S := fun _ => False) hb8).blk y7 (fun h => h)
  have B8 := B7.trans (hb8.mono B7.size)
  have HG8 := hid (And.intro hgood8 hbad8)
  have HB8 := hid hb8
  clear hby hb8 x7 y7 B7 hgood8 hbad8 d0 d1 d2 d3 d4 d5 d6 d7 d8 d9 d10
  by_cases hfE : f.E = 0
  case neg =>
    obtain rfl := HG7.out.2 hfE
    have hvl := validL (ad := ad) f w8 (H0.out.2.2.2.2.valid.below B8) (hRf.on B8)
    rw [GivesErrB_ne hfE] at hvl
    clear hfE
    have c0 : w8.cell? ⟨w.heap.size, 0, none⟩ = some (.int .i64 f.kind) := x8.cell 0
    have c1 : w8.cell? ⟨w.heap.size, 1, none⟩ = some (.int .i64 f.fr) := x8.cell 1
    have c2 : w8.cell? ⟨w.heap.size, 2, none⟩ = some (.int .i64 f.tt) := x8.cell 2
    have c3 : w8.cell? ⟨w.heap.size, 3, none⟩ = some (.int .i64 f.life) := x8.cell 3
    have c4 : w8.cell? ⟨w.heap.size, 4, none⟩ = some (.int .i64 f.seen) := x8.cell 4
    have c5 : w8.cell? ⟨w.heap.size, 5, none⟩ = some (.bool f.out) := x8.cell 5
    have c6 : w8.cell? ⟨w.heap.size, 6, none⟩ = some (.int .i64 f.count) := x8.cell 6
    have c7 : w8.cell? ⟨w.heap.size, 7, none⟩ = some (.int .i64 f.founder) := x8.cell 7
    have c8 : w8.cell? ⟨w.heap.size, 8, none⟩ = some (.int .i64 f.hop) := x8.cell 8
    have c9 : w8.cell? ⟨w.heap.size, 9, none⟩ = some (.slice f.MA f.ms.length f.mc) := x8.cell 9
    have c10 : w8.cell? ⟨w.heap.size, 10, none⟩ = some (.slice f.EA f.es.length f.ec) := x8.cell 10
    go_wp2_with fail
    refine hvl.mono ?_
    rintro e w9 ⟨rfl, hb9⟩
    have B9 := B8.trans (hb9.mono B8.size)
    go_wp2_with fail
    go_ret
    exact ⟨rfl, B9⟩
  obtain ⟨rfl, rfl, hs7⟩ := HG7.out.1 hfE
  have hs8 := SlC.on hs7 HB8.out
  have hlen := B_len hfE
  have hn : ∃ n : Nat, a3 % (f.B.length : Int) = n ∧ n < f.B.length := ⟨(a3 % (f.B.length : Int)).toNat, by have := Int.emod_nonneg a3 (show (f.B.length : Int) ≠ 0 by omega); omega, by have := Int.emod_lt_of_pos a3 (show 0 < (f.B.length : Int) by omega); omega⟩
  obtain ⟨n, hn, hnl⟩ := hn
  have hnum : ∀ w, _ := fun w => number_any a3 (f.B.length : Int) (by omega) (by omega) w
  rw [hn] at hnum
  have hcut := read_cut hfE hnl
  have hr1 := read_B0 hfE
  have hr2 := read_B hfE [0]
  rw [if_neg (by simp)] at hr2
  have hIB : IsB f.B := cat_b _
  have hBinj := fun hg => B_inj hfE (g := g) hg
  have HF := hid (And.intro hfE (And.intro hcut (And.intro hr1 (And.intro hr2 (And.intro hIB (And.intro hBinj hnum))))))
  have HXY := hid (And.intro x8 (And.intro y8 B8))
  have B8' := B8
  clear hfE hcut hr1 hr2 hIB hBinj hnum hn x8 y8
  obtain ⟨p, hp⟩ : ∃ p, f.B = p := ⟨_, rfl⟩
  rw [hp] at hs8 hlen hnl HF ⊢
  have hk7 := hs8.2
  have HS := hid (And.intro hs8.1 hlen)
  clear hs8 hs7 hp HG7 HB8
  have hrd := readF_any (ad := ad) A7 k7 p w8 (H0.out.2.2.2.2.below B8) HS.out.1 HF.out.2.2.2.2.1 (by omega)
  go_wp2_with fail
  refine hrd.mono ?_
  rintro e w9 ⟨y, ev, rfl, hring9, hro, hb9⟩
  rw [HF.out.2.2.1] at hro
  obtain ⟨rfl, hypl⟩ := hro
  clear hrd
  go_upto_region 16 with (fail)
  have hbA : Below w9.heap.size w9 (w9.alloc (.cells #[.int .i64 y.kind, .int .i64 y.fr, .int .i64 y.tt, .int .i64 y.life, .int .i64 y.seen, .bool y.out, .int .i64 y.count, .int .i64 y.founder, .int .i64 y.hop, .slice y.MA y.ms.length y.mc, .slice y.EA y.es.length y.ec] 64)) := (Below.refl _ _).alloc (Nat.le_refl _) _
  have yA : Blk (w9.alloc (.cells #[.int .i64 y.kind, .int .i64 y.fr, .int .i64 y.tt, .int .i64 y.life, .int .i64 y.seen, .bool y.out, .int .i64 y.count, .int .i64 y.founder, .int .i64 y.hop, .slice y.MA y.ms.length y.mc, .slice y.EA y.es.length y.ec] 64)) w9.heap.size [.int .i64 y.kind, .int .i64 y.fr, .int .i64 y.tt, .int .i64 y.life, .int .i64 y.seen, .bool y.out, .int .i64 y.count, .int .i64 y.founder, .int .i64 y.hop, .slice y.MA y.ms.length y.mc, .slice y.EA y.es.length y.ec] 64 := Blk.new w9 _ _
  have ringA := hring9.on hbA
  have BA : Below w8.heap.size w8 (w9.alloc (.cells #[.int .i64 y.kind, .int .i64 y.fr, .int .i64 y.tt, .int .i64 y.life, .int .i64 y.seen, .bool y.out, .int .i64 y.count, .int .i64 y.founder, .int .i64 y.hop, .slice y.MA y.ms.length y.mc, .slice y.EA y.es.length y.ec] 64)) := hb9.trans (hbA.mono hb9.size)
  generalize w9.alloc (.cells #[.int .i64 y.kind, .int .i64 y.fr, .int .i64 y.tt, .int .i64 y.life, .int .i64 y.seen, .bool y.out, .int .i64 y.count, .int .i64 y.founder, .int .i64 y.hop, .slice y.MA y.ms.length y.mc, .slice y.EA y.es.length y.ec] 64) = wA at *
  generalize w9.heap.size = yb at *
  clear hbA hring9 hb9
  have hl1 : (n : Int) ≤ k7 := by omega
  have hl2 : n ≤ k7 := by omega
  have hl3 : (0 : Int) ≤ n := by omega
  have HA := hid (And.intro yA (And.intro ringA (And.intro BA hypl)))
  clear yA ringA hypl BA
  have hsn : Sl wA A7 ((p.take n).map (Value.int .u8)) := by
    rw [List.map_take]
    exact sl_take (It2 HS.out.1 HA.out.2.2.1) n
  have hln : (p.take n).length = n := by rw [List.length_take]; omega
  have hrd := readF_any (ad := ad) A7 k7 (p.take n) wA ((H0.out.2.2.2.2.below B8).below HA.out.2.2.1) hsn (fun b hb => HF.out.2.2.2.2.1 b (List.mem_of_mem_take hb)) (by omega)
  rw [hln] at hrd
  have HRD := hid hrd
  clear hrd hsn hln hnl
  go_wp2_with fail
  refine (HF.out.2.2.2.2.2.2 _).mono ?_
  rintro e w' ⟨rfl, rfl⟩
  go_wp2_with fail
  refine HRD.out.mono ?_
  rintro e wB ⟨z2, ev2, rfl, hring2, hro2, hb2⟩
  obtain ⟨T2, v2, rfl⟩ : ∃ T v, ev2 = .iface T v := by
    rcases read_cases hro2 with ⟨_, h⟩ | ⟨h, _⟩
    · exact absurd h (HF.out.2.1 _)
    · exact h
  clear hring2 hro2 HRD
  go_upto_region 17 with (fail)
  have hbC : Below wB.heap.size wB (wB.alloc (.cells #[.int .i64 z2.kind, .int .i64 z2.fr, .int .i64 z2.tt, .int .i64 z2.life, .int .i64 z2.seen, .bool z2.out, .int .i64 z2.count, .int .i64 z2.founder, .int .i64 z2.hop, .slice z2.MA z2.ms.length z2.mc, .slice z2.EA z2.es.length z2.ec] 64)) := (Below.refl _ _).alloc (Nat.le_refl _) _
  have BC : Below w8.heap.size w8 (wB.alloc (.cells #[.int .i64 z2.kind, .int .i64 z2.fr, .int .i64 z2.tt, .int .i64 z2.life, .int .i64 z2.seen, .bool z2.out, .int .i64 z2.count, .int .i64 z2.founder, .int .i64 z2.hop, .slice z2.MA z2.ms.length z2.mc, .slice z2.EA z2.es.length z2.ec] 64)) := (HA.out.2.2.1.trans (hb2.mono HA.out.2.2.1.size)).trans (hbC.mono (HA.out.2.2.1.trans (hb2.mono HA.out.2.2.1.size)).size)
  have BCA : Below wA.heap.size wA (wB.alloc (.cells #[.int .i64 z2.kind, .int .i64 z2.fr, .int .i64 z2.tt, .int .i64 z2.life, .int .i64 z2.seen, .bool z2.out, .int .i64 z2.count, .int .i64 z2.founder, .int .i64 z2.hop, .slice z2.MA z2.ms.length z2.mc, .slice z2.EA z2.es.length z2.ec] 64)) := hb2.trans (hbC.mono hb2.size)
  generalize wB.alloc (.cells #[.int .i64 z2.kind, .int .i64 z2.fr, .int .i64 z2.tt, .int .i64 z2.life, .int .i64 z2.seen, .bool z2.out, .int .i64 z2.count, .int .i64 z2.founder, .int .i64 z2.hop, .slice z2.MA z2.ms.length z2.mc, .slice z2.EA z2.es.length z2.ec] 64) = wC at *
  generalize wB.heap.size = zb2 at *
  clear hbC hb2
  have hcp := refBytes_any A7 k7 p wC (It2 HS.out.1 BC) (by omega)
  have HC := hid (And.intro BC BCA)
  clear BC BCA
  have hpl0 : p.length ≤ 60000 := HS.out.2.2
  go_wp2_with fail
  refine hcp.mono ?_
  rintro e wD ⟨vD, rfl, hownD, hbD⟩
  obtain ⟨AD, cD, rfl, _, _, _⟩ := Sl.row hownD
  have HD := hid (And.intro hownD (And.intro hbD hbD.size))
  clear hcp hownD hbD
  go_wp2_with (at_builtin; refine wpList_append_byte rfl _ _ rfl rfl HD.out.1 0 wD.heap.size rfl rfl rfl (by omega) HD.out.2.2 ?_; intro vE wE hownE hbE; obtain ⟨AE, cE, rfl, _, _, hsE⟩ := Sl.row hownE; have HEE := hid (And.intro hsE hbE); clear hownE hsE hbE)
  have BE : Below w8.heap.size w8 wE := (HC.out.1.trans (HD.out.2.1.mono HC.out.1.size)).trans (HEE.out.2.mono (by have := (HC.out.1).size; omega))
  have BEA : Below wA.heap.size wA wE := (HC.out.2.trans (HD.out.2.1.mono HC.out.2.size)).trans (HEE.out.2.mono (by have := (HC.out.2).size; omega))
  have hrd := readF_any (ad := ad) AE cE (p ++ [0]) wE ((H0.out.2.2.2.2.below B8').below BE) HEE.out.1 (fun b hb => by
    rcases List.mem_append.1 hb with hb | hb
    · exact HF.out.2.2.2.2.1 b hb
    · rw [List.mem_singleton] at hb; subst hb; omega) (by rw [List.length_append]; simp; omega)
  have hlp : (p ++ [(0 : Int)]).length = p.length + 1 := by rw [List.length_append]; rfl
  rw [hlp] at hrd
  have HBE := hid (And.intro BE BEA)
  clear BE BEA
  refine hrd.mono ?_
  rintro e wF ⟨z3, ev3, rfl, hring3, hro3, hbF⟩
  rw [HF.out.2.2.2.1] at hro3
  obtain ⟨rfl, -, -⟩ := hro3
  rw [show errV ad 102 = .iface 136 (.pointer (some (ad 102))) from errV_ne ad (by decide)]
  clear hrd hring3
  go_upto_region 18 with (fail)
  have hbG : Below wF.heap.size wF (wF.alloc (.cells #[.int .i64 z3.kind, .int .i64 z3.fr, .int .i64 z3.tt, .int .i64 z3.life, .int .i64 z3.seen, .bool z3.out, .int .i64 z3.count, .int .i64 z3.founder, .int .i64 z3.hop, .slice z3.MA z3.ms.length z3.mc, .slice z3.EA z3.es.length z3.ec] 64)) := (Below.refl _ _).alloc (Nat.le_refl _) _
  have BG1 : Below wE.heap.size wE (wF.alloc (.cells #[.int .i64 z3.kind, .int .i64 z3.fr, .int .i64 z3.tt, .int .i64 z3.life, .int .i64 z3.seen, .bool z3.out, .int .i64 z3.count, .int .i64 z3.founder, .int .i64 z3.hop, .slice z3.MA z3.ms.length z3.mc, .slice z3.EA z3.es.length z3.ec] 64)) := hbF.trans (hbG.mono hbF.size)
  have BG := HBE.out.1.trans (BG1.mono HBE.out.1.size)
  have BGA := HBE.out.2.trans (BG1.mono HBE.out.2.size)
  generalize wF.alloc (.cells #[.int .i64 z3.kind, .int .i64 z3.fr, .int .i64 z3.tt, .int .i64 z3.life, .int .i64 z3.seen, .bool z3.out, .int .i64 z3.count, .int .i64 z3.founder, .int .i64 z3.hop, .slice z3.MA z3.ms.length z3.mc, .slice z3.EA z3.es.length z3.ec] 64) = wG at *
  generalize wF.heap.size = zb3 at *
  have xG := ((Eff.of_below (S := fun _ => False) BG).blk HXY.out.1 (fun h => h)).drew
  have gG := ((Eff.of_below (S := fun _ => False) BG).blk HXY.out.2.1 (fun h => h)).drew
  have yG := ((Eff.of_below (S := fun _ => False) BGA).blk HA.out.1 (fun h => h)).drew
  have BW := (B8'.trans (BG.mono B8'.size)).drew
  have BG8 := BG.drew
  have hfw := H0.out.1.on BW
  have hsm := sameF_any y f wG.drew (ring_fr (HA.out.2.1.on BGA.drew)) hfw
  rw [decide_eq_true HA.out.2.2.2] at hsm
  have three : ∀ w', Blk w' w.heap.size [.int .i64 f.kind, .int .i64 f.fr, .int .i64 f.tt, .int .i64 f.life, .int .i64 f.seen, .bool f.out, .int .i64 f.count, .int .i64 f.founder, .int .i64 f.hop, .slice f.MA f.ms.length f.mc, .slice f.EA f.es.length f.ec] 64 → Blk w' gb [.int .i64 g.kind, .int .i64 g.fr, .int .i64 g.tt, .int .i64 g.life, .int .i64 g.seen, .bool g.out, .int .i64 g.count, .int .i64 g.founder, .int .i64 g.hop, .slice g.MA g.ms.length g.mc, .slice g.EA g.es.length g.ec] 64 → Blk w' yb [.int .i64 y.kind, .int .i64 y.fr, .int .i64 y.tt, .int .i64 y.life, .int .i64 y.seen, .bool y.out, .int .i64 y.count, .int .i64 y.founder, .int .i64 y.hop, .slice y.MA y.ms.length y.mc, .slice y.EA y.es.length y.ec] 64 → w'.cell? ⟨w.heap.size, 0, none⟩ = some (.int .i64 f.kind) ∧ w'.cell? ⟨w.heap.size, 1, none⟩ = some (.int .i64 f.fr) ∧ w'.cell? ⟨w.heap.size, 2, none⟩ = some (.int .i64 f.tt) ∧ w'.cell? ⟨w.heap.size, 3, none⟩ = some (.int .i64 f.life) ∧ w'.cell? ⟨w.heap.size, 4, none⟩ = some (.int .i64 f.seen) ∧ w'.cell? ⟨w.heap.size, 5, none⟩ = some (.bool f.out) ∧ w'.cell? ⟨w.heap.size, 6, none⟩ = some (.int .i64 f.count) ∧ w'.cell? ⟨w.heap.size, 7, none⟩ = some (.int .i64 f.founder) ∧ w'.cell? ⟨w.heap.size, 8, none⟩ = some (.int .i64 f.hop) ∧ w'.cell? ⟨w.heap.size, 9, none⟩ = some (.slice f.MA f.ms.length f.mc) ∧ w'.cell? ⟨w.heap.size, 10, none⟩ = some (.slice f.EA f.es.length f.ec) ∧ w'.cell? ⟨gb, 0, none⟩ = some (.int .i64 g.kind) ∧ w'.cell? ⟨gb, 1, none⟩ = some (.int .i64 g.fr) ∧ w'.cell? ⟨gb, 2, none⟩ = some (.int .i64 g.tt) ∧ w'.cell? ⟨gb, 3, none⟩ = some (.int .i64 g.life) ∧ w'.cell? ⟨gb, 4, none⟩ = some (.int .i64 g.seen) ∧ w'.cell? ⟨gb, 5, none⟩ = some (.bool g.out) ∧ w'.cell? ⟨gb, 6, none⟩ = some (.int .i64 g.count) ∧ w'.cell? ⟨gb, 7, none⟩ = some (.int .i64 g.founder) ∧ w'.cell? ⟨gb, 8, none⟩ = some (.int .i64 g.hop) ∧ w'.cell? ⟨gb, 9, none⟩ = some (.slice g.MA g.ms.length g.mc) ∧ w'.cell? ⟨gb, 10, none⟩ = some (.slice g.EA g.es.length g.ec) ∧ w'.cell? ⟨yb, 0, none⟩ = some (.int .i64 y.kind) ∧ w'.cell? ⟨yb, 1, none⟩ = some (.int .i64 y.fr) ∧ w'.cell? ⟨yb, 2, none⟩ = some (.int .i64 y.tt) ∧ w'.cell? ⟨yb, 3, none⟩ = some (.int .i64 y.life) ∧ w'.cell? ⟨yb, 4, none⟩ = some (.int .i64 y.seen) ∧ w'.cell? ⟨yb, 5, none⟩ = some (.bool y.out) ∧ w'.cell? ⟨yb, 6, none⟩ = some (.int .i64 y.count) ∧ w'.cell? ⟨yb, 7, none⟩ = some (.int .i64 y.founder) ∧ w'.cell? ⟨yb, 8, none⟩ = some (.int .i64 y.hop) ∧ w'.cell? ⟨yb, 9, none⟩ = some (.slice y.MA y.ms.length y.mc) ∧ w'.cell? ⟨yb, 10, none⟩ = some (.slice y.EA y.es.length y.ec) := fun w' hx hg hy => ⟨hx.cell 0, hx.cell 1, hx.cell 2, hx.cell 3, hx.cell 4, hx.cell 5, hx.cell 6, hx.cell 7, hx.cell 8, hx.cell 9, hx.cell 10, hg.cell 0, hg.cell 1, hg.cell 2, hg.cell 3, hg.cell 4, hg.cell 5, hg.cell 6, hg.cell 7, hg.cell 8, hg.cell 9, hg.cell 10, hy.cell 0, hy.cell 1, hy.cell 2, hy.cell 3, hy.cell 4, hy.cell 5, hy.cell 6, hy.cell 7, hy.cell 8, hy.cell 9, hy.cell 10⟩
  have HTW := hid three
  clear three hbG BG1 BG BGA hbF hfw
  have q0 : wG.drew.cell? ⟨w.heap.size, 0, none⟩ = some (.int .i64 f.kind) := xG.cell 0
  have q1 : wG.drew.cell? ⟨w.heap.size, 1, none⟩ = some (.int .i64 f.fr) := xG.cell 1
  have q2 : wG.drew.cell? ⟨w.heap.size, 2, none⟩ = some (.int .i64 f.tt) := xG.cell 2
  have q3 : wG.drew.cell? ⟨w.heap.size, 3, none⟩ = some (.int .i64 f.life) := xG.cell 3
  have q4 : wG.drew.cell? ⟨w.heap.size, 4, none⟩ = some (.int .i64 f.seen) := xG.cell 4
  have q5 : wG.drew.cell? ⟨w.heap.size, 5, none⟩ = some (.bool f.out) := xG.cell 5
  have q6 : wG.drew.cell? ⟨w.heap.size, 6, none⟩ = some (.int .i64 f.count) := xG.cell 6
  have q7 : wG.drew.cell? ⟨w.heap.size, 7, none⟩ = some (.int .i64 f.founder) := xG.cell 7
  have q8 : wG.drew.cell? ⟨w.heap.size, 8, none⟩ = some (.int .i64 f.hop) := xG.cell 8
  have q9 : wG.drew.cell? ⟨w.heap.size, 9, none⟩ = some (.slice f.MA f.ms.length f.mc) := xG.cell 9
  have q10 : wG.drew.cell? ⟨w.heap.size, 10, none⟩ = some (.slice f.EA f.es.length f.ec) := xG.cell 10
  have r0 : wG.drew.cell? ⟨yb, 0, none⟩ = some (.int .i64 y.kind) := yG.cell 0
  have r1 : wG.drew.cell? ⟨yb, 1, none⟩ = some (.int .i64 y.fr) := yG.cell 1
  have r2 : wG.drew.cell? ⟨yb, 2, none⟩ = some (.int .i64 y.tt) := yG.cell 2
  have r3 : wG.drew.cell? ⟨yb, 3, none⟩ = some (.int .i64 y.life) := yG.cell 3
  have r4 : wG.drew.cell? ⟨yb, 4, none⟩ = some (.int .i64 y.seen) := yG.cell 4
  have r5 : wG.drew.cell? ⟨yb, 5, none⟩ = some (.bool y.out) := yG.cell 5
  have r6 : wG.drew.cell? ⟨yb, 6, none⟩ = some (.int .i64 y.count) := yG.cell 6
  have r7 : wG.drew.cell? ⟨yb, 7, none⟩ = some (.int .i64 y.founder) := yG.cell 7
  have r8 : wG.drew.cell? ⟨yb, 8, none⟩ = some (.int .i64 y.hop) := yG.cell 8
  have r9 : wG.drew.cell? ⟨yb, 9, none⟩ = some (.slice y.MA y.ms.length y.mc) := yG.cell 9
  have r10 : wG.drew.cell? ⟨yb, 10, none⟩ = some (.slice y.EA y.es.length y.ec) := yG.cell 10
  by_cases hgE : g.E = 0
  case neg =>
    obtain rfl := HG8.out.2 hgE
    clear hgE
    go_wp2_with fail
    refine wp_region_held_drew (S := fun w' => w'.cell? ⟨w.heap.size, 0, none⟩ = some (.int .i64 f.kind) ∧ w'.cell? ⟨w.heap.size, 1, none⟩ = some (.int .i64 f.fr) ∧ w'.cell? ⟨w.heap.size, 2, none⟩ = some (.int .i64 f.tt) ∧ w'.cell? ⟨w.heap.size, 3, none⟩ = some (.int .i64 f.life) ∧ w'.cell? ⟨w.heap.size, 4, none⟩ = some (.int .i64 f.seen) ∧ w'.cell? ⟨w.heap.size, 5, none⟩ = some (.bool f.out) ∧ w'.cell? ⟨w.heap.size, 6, none⟩ = some (.int .i64 f.count) ∧ w'.cell? ⟨w.heap.size, 7, none⟩ = some (.int .i64 f.founder) ∧ w'.cell? ⟨w.heap.size, 8, none⟩ = some (.int .i64 f.hop) ∧ w'.cell? ⟨w.heap.size, 9, none⟩ = some (.slice f.MA f.ms.length f.mc) ∧ w'.cell? ⟨w.heap.size, 10, none⟩ = some (.slice f.EA f.es.length f.ec) ∧ w'.cell? ⟨gb, 0, none⟩ = some (.int .i64 g.kind) ∧ w'.cell? ⟨gb, 1, none⟩ = some (.int .i64 g.fr) ∧ w'.cell? ⟨gb, 2, none⟩ = some (.int .i64 g.tt) ∧ w'.cell? ⟨gb, 3, none⟩ = some (.int .i64 g.life) ∧ w'.cell? ⟨gb, 4, none⟩ = some (.int .i64 g.seen) ∧ w'.cell? ⟨gb, 5, none⟩ = some (.bool g.out) ∧ w'.cell? ⟨gb, 6, none⟩ = some (.int .i64 g.count) ∧ w'.cell? ⟨gb, 7, none⟩ = some (.int .i64 g.founder) ∧ w'.cell? ⟨gb, 8, none⟩ = some (.int .i64 g.hop) ∧ w'.cell? ⟨gb, 9, none⟩ = some (.slice g.MA g.ms.length g.mc) ∧ w'.cell? ⟨gb, 10, none⟩ = some (.slice g.EA g.es.length g.ec) ∧ w'.cell? ⟨yb, 0, none⟩ = some (.int .i64 y.kind) ∧ w'.cell? ⟨yb, 1, none⟩ = some (.int .i64 y.fr) ∧ w'.cell? ⟨yb, 2, none⟩ = some (.int .i64 y.tt) ∧ w'.cell? ⟨yb, 3, none⟩ = some (.int .i64 y.life) ∧ w'.cell? ⟨yb, 4, none⟩ = some (.int .i64 y.seen) ∧ w'.cell? ⟨yb, 5, none⟩ = some (.bool y.out) ∧ w'.cell? ⟨yb, 6, none⟩ = some (.int .i64 y.count) ∧ w'.cell? ⟨yb, 7, none⟩ = some (.int .i64 y.founder) ∧ w'.cell? ⟨yb, 8, none⟩ = some (.int .i64 y.hop) ∧ w'.cell? ⟨yb, 9, none⟩ = some (.slice y.MA y.ms.length y.mc) ∧ w'.cell? ⟨yb, 10, none⟩ = some (.slice y.EA y.es.length y.ec)) (by kernel_rfl) ?_ (fun hHeld => ?_)
    · (try dsimp only); (first | exact HTW.out _ xG gG yG | exact HTW.out _ xH gH yH | exact HTW.out _ xI gI yI | exact HTW.out _ xJ gJ yJ)
    refine held_take 0 ?_ rfl (by kernel_rfl) (by kernel_rfl) (by kernel_rfl) (fun _ _ _ h => h) (by rfl) ?_ hHeld ?_
    rotate_left
    · (intro w hSw; (try dsimp only at hSw); go_simp; try with_reducible rfl)
    try simp only [Act.put, List.setIfInBounds_toArray, List.set_cons_zero, List.set_cons_succ]
    refine held_take 1 ?_ rfl (by kernel_rfl) (by kernel_rfl) (by kernel_rfl) (fun _ _ _ h => h) (by rfl) ?_ hHeld ?_
    rotate_left
    · (intro w hSw; (try dsimp only at hSw); go_simp; try with_reducible rfl)
    try simp only [Act.put, List.setIfInBounds_toArray, List.set_cons_zero, List.set_cons_succ]
    refine held_take 2 ?_ rfl (by kernel_rfl) (by kernel_rfl) (by kernel_rfl) (fun _ _ _ h => h) (by rfl) ?_ hHeld ?_
    rotate_left
    · (intro w hSw; (try dsimp only at hSw); go_simp; try with_reducible rfl)
    try simp only [Act.put, List.setIfInBounds_toArray, List.set_cons_zero, List.set_cons_succ]
    refine held_take 3 ?_ rfl (by kernel_rfl) (by kernel_rfl) (by kernel_rfl) (fun _ _ _ h => h) (by rfl) ?_ hHeld ?_
    rotate_left
    · (intro w hSw; (try dsimp only at hSw); go_simp; try with_reducible rfl)
    try simp only [Act.put, List.setIfInBounds_toArray, List.set_cons_zero, List.set_cons_succ]
    refine held_take 4 ?_ rfl (by kernel_rfl) (by kernel_rfl) (by kernel_rfl) (fun _ _ _ h => h) (by rfl) ?_ hHeld ?_
    rotate_left
    · (intro w hSw; (try dsimp only at hSw); go_simp; try with_reducible rfl)
    try simp only [Act.put, List.setIfInBounds_toArray, List.set_cons_zero, List.set_cons_succ]
    refine held_take 5 ?_ rfl (by kernel_rfl) (by kernel_rfl) (by kernel_rfl) (fun _ _ _ h => h) (by rfl) ?_ hHeld ?_
    rotate_left
    · (intro w hSw; (try dsimp only at hSw); go_simp; try with_reducible rfl)
    try simp only [Act.put, List.setIfInBounds_toArray, List.set_cons_zero, List.set_cons_succ]
    refine held_take 6 ?_ rfl (by kernel_rfl) (by kernel_rfl) (by kernel_rfl) (fun _ _ _ h => h) (by rfl) ?_ hHeld ?_
    rotate_left
    · (intro w hSw; (try dsimp only at hSw); go_simp; try with_reducible rfl)
    try simp only [Act.put, List.setIfInBounds_toArray, List.set_cons_zero, List.set_cons_succ]
    refine held_take 7 ?_ rfl (by kernel_rfl) (by kernel_rfl) (by kernel_rfl) (fun _ _ _ h => h) (by rfl) ?_ hHeld ?_
    rotate_left
    · (intro w hSw; (try dsimp only at hSw); go_simp; try with_reducible rfl)
    try simp only [Act.put, List.setIfInBounds_toArray, List.set_cons_zero, List.set_cons_succ]
    refine held_one 8 rfl (by kernel_rfl) (by rfl) (fun K hK => ?_)
    go_simp
    refine hsm.mono ?_
    rintro e wH ⟨rfl, hbH⟩
    have xH := (Eff.of_below (S := fun _ => False) hbH).blk xG (fun h => h)
    have gH := (Eff.of_below (S := fun _ => False) hbH).blk gG (fun h => h)
    have yH := (Eff.of_below (S := fun _ => False) hbH).blk yG (fun h => h)
    have BWH := BW.trans (hbH.mono BW.size)
    have B8H := BG8.trans (hbH.mono BG8.size)
    clear q0 q1 q2 q3 q4 q5 q6 q7 q8 q9 q10 r0 r1 r2 r3 r4 r5 r6 r7 r8 r9 r10
    refine hK.out _ _ ?_ (fun hHeld2 => ?_)
    · (try dsimp only); (first | exact HTW.out _ xG gG yG | exact HTW.out _ xH gH yH | exact HTW.out _ xI gI yI | exact HTW.out _ xJ gJ yJ)
    clear hK K hHeld
    have hHeld := hHeld2
    clear hHeld2
    try simp only [Act.put, List.setIfInBounds_toArray, List.set_cons_zero, List.set_cons_succ]
    refine held_take 9 ?_ rfl (by kernel_rfl) (by kernel_rfl) (by kernel_rfl) (fun _ _ _ h => h) (by rfl) ?_ hHeld ?_
    rotate_left
    · (intro w hSw; (try dsimp only at hSw); go_simp; try with_reducible rfl)
    try simp only [Act.put, List.setIfInBounds_toArray, List.set_cons_zero, List.set_cons_succ]
    refine held_take 10 ?_ rfl (by kernel_rfl) (by kernel_rfl) (by kernel_rfl) (fun _ _ _ h => h) (by rfl) ?_ hHeld ?_
    rotate_left
    · (intro w hSw; (try dsimp only at hSw); go_simp; try with_reducible rfl)
    try simp only [Act.put, List.setIfInBounds_toArray, List.set_cons_zero, List.set_cons_succ]
    refine held_take 11 ?_ rfl (by kernel_rfl) (by kernel_rfl) (by kernel_rfl) (fun _ _ _ h => h) (by rfl) ?_ hHeld ?_
    rotate_left
    · (intro w hSw; (try dsimp only at hSw); go_simp; try with_reducible rfl)
    try simp only [Act.put, List.setIfInBounds_toArray, List.set_cons_zero, List.set_cons_succ]
    refine held_take 12 ?_ rfl (by kernel_rfl) (by kernel_rfl) (by kernel_rfl) (fun _ _ _ h => h) (by rfl) ?_ hHeld ?_
    rotate_left
    · (intro w hSw; (try dsimp only at hSw); go_simp; try with_reducible rfl)
    try simp only [Act.put, List.setIfInBounds_toArray, List.set_cons_zero, List.set_cons_succ]
    refine held_take 13 ?_ rfl (by kernel_rfl) (by kernel_rfl) (by kernel_rfl) (fun _ _ _ h => h) (by rfl) ?_ hHeld ?_
    rotate_left
    · (intro w hSw; (try dsimp only at hSw); go_simp; try with_reducible rfl)
    try simp only [Act.put, List.setIfInBounds_toArray, List.set_cons_zero, List.set_cons_succ]
    refine held_take 14 ?_ rfl (by kernel_rfl) (by kernel_rfl) (by kernel_rfl) (fun _ _ _ h => h) (by rfl) ?_ hHeld ?_
    rotate_left
    · (intro w hSw; (try dsimp only at hSw); go_simp; try with_reducible rfl)
    try simp only [Act.put, List.setIfInBounds_toArray, List.set_cons_zero, List.set_cons_succ]
    refine held_take 15 ?_ rfl (by kernel_rfl) (by kernel_rfl) (by kernel_rfl) (fun _ _ _ h => h) (by rfl) ?_ hHeld ?_
    rotate_left
    · (intro w hSw; (try dsimp only at hSw); go_simp; try with_reducible rfl)
    try simp only [Act.put, List.setIfInBounds_toArray, List.set_cons_zero, List.set_cons_succ]
    refine held_take 16 ?_ rfl (by kernel_rfl) (by kernel_rfl) (by kernel_rfl) (fun _ _ _ h => h) (by rfl) ?_ hHeld ?_
    rotate_left
    · (intro w hSw; (try dsimp only at hSw); go_simp; try with_reducible rfl)
    try simp only [Act.put, List.setIfInBounds_toArray, List.set_cons_zero, List.set_cons_succ]
    refine held_take 17 ?_ rfl (by kernel_rfl) (by kernel_rfl) (by kernel_rfl) (fun _ _ _ h => h) (by rfl) ?_ hHeld ?_
    rotate_left
    · (intro w hSw; (try dsimp only at hSw); go_simp; try with_reducible rfl)
    try simp only [Act.put, List.setIfInBounds_toArray, List.set_cons_zero, List.set_cons_succ]
    refine held_take 18 ?_ rfl (by kernel_rfl) (by kernel_rfl) (by kernel_rfl) (fun _ _ _ h => h) (by rfl) ?_ hHeld ?_
    rotate_left
    · (intro w hSw; (try dsimp only at hSw); go_simp; try with_reducible rfl)
    try simp only [Act.put, List.setIfInBounds_toArray, List.set_cons_zero, List.set_cons_succ]
    refine held_take 19 ?_ rfl (by kernel_rfl) (by kernel_rfl) (by kernel_rfl) (fun _ _ _ h => h) (by rfl) ?_ hHeld ?_
    rotate_left
    · (intro w hSw; (try dsimp only at hSw); go_simp; try with_reducible rfl)
    try simp only [Act.put, List.setIfInBounds_toArray, List.set_cons_zero, List.set_cons_succ]
    refine held_take 20 ?_ rfl (by kernel_rfl) (by kernel_rfl) (by kernel_rfl) (fun _ _ _ h => h) (by rfl) ?_ hHeld ?_
    rotate_left
    · (intro w hSw; (try dsimp only at hSw); go_simp; try with_reducible rfl)
    try simp only [Act.put, List.setIfInBounds_toArray, List.set_cons_zero, List.set_cons_succ]
    refine held_take 21 ?_ rfl (by kernel_rfl) (by kernel_rfl) (by kernel_rfl) (fun _ _ _ h => h) (by rfl) ?_ hHeld ?_
    rotate_left
    · (intro w hSw; (try dsimp only at hSw); go_simp; try with_reducible rfl)
    try simp only [Act.put, List.setIfInBounds_toArray, List.set_cons_zero, List.set_cons_succ]
    refine held_skip 22 rfl (by kernel_rfl) (by kernel_rfl) (by kernel_rfl) (fun _ _ _ h => h) (by rfl) hHeld ?_
    try simp only [Act.put, List.setIfInBounds_toArray, List.set_cons_zero, List.set_cons_succ]
    refine held_skip 23 rfl (by kernel_rfl) (by kernel_rfl) (by kernel_rfl) (fun _ _ _ h => h) (by rfl) hHeld ?_
    try simp only [Act.put, List.setIfInBounds_toArray, List.set_cons_zero, List.set_cons_succ]
    refine held_skip 24 rfl (by kernel_rfl) (by kernel_rfl) (by kernel_rfl) (fun _ _ _ h => h) (by rfl) hHeld ?_
    try simp only [Act.put, List.setIfInBounds_toArray, List.set_cons_zero, List.set_cons_succ]
    refine held_skip 25 rfl (by kernel_rfl) (by kernel_rfl) (by kernel_rfl) (fun _ _ _ h => h) (by rfl) hHeld ?_
    try simp only [Act.put, List.setIfInBounds_toArray, List.set_cons_zero, List.set_cons_succ]
    refine held_skip 26 rfl (by kernel_rfl) (by kernel_rfl) (by kernel_rfl) (fun _ _ _ h => h) (by rfl) hHeld ?_
    try simp only [Act.put, List.setIfInBounds_toArray, List.set_cons_zero, List.set_cons_succ]
    refine held_skip 27 rfl (by kernel_rfl) (by kernel_rfl) (by kernel_rfl) (fun _ _ _ h => h) (by rfl) hHeld ?_
    try simp only [Act.put, List.setIfInBounds_toArray, List.set_cons_zero, List.set_cons_succ]
    refine held_skip 28 rfl (by kernel_rfl) (by kernel_rfl) (by kernel_rfl) (fun _ _ _ h => h) (by rfl) hHeld ?_
    try simp only [Act.put, List.setIfInBounds_toArray, List.set_cons_zero, List.set_cons_succ]
    refine held_take 29 ?_ rfl (by kernel_rfl) (by kernel_rfl) (by kernel_rfl) (fun _ _ _ h => h) (by rfl) ?_ hHeld ?_
    rotate_left
    · (intro w hSw; (try dsimp only at hSw); go_simp; try with_reducible rfl)
    try simp only [Act.put, List.setIfInBounds_toArray, List.set_cons_zero, List.set_cons_succ]
    refine held_take 30 ?_ rfl (by kernel_rfl) (by kernel_rfl) (by kernel_rfl) (fun _ _ _ h => h) (by rfl) ?_ hHeld ?_
    rotate_left
    · (intro w hSw; (try dsimp only at hSw); go_simp; try with_reducible rfl)
    try simp only [Act.put, List.setIfInBounds_toArray, List.set_cons_zero, List.set_cons_succ]
    refine held_take 31 ?_ rfl (by kernel_rfl) (by kernel_rfl) (by kernel_rfl) (fun _ _ _ h => h) (by rfl) ?_ hHeld ?_
    rotate_left
    · (intro w hSw; (try dsimp only at hSw); go_simp; try with_reducible rfl)
    try simp only [Act.put, List.setIfInBounds_toArray, List.set_cons_zero, List.set_cons_succ]
    refine wpAnyH_done (by kernel_rfl) ?_ _
    clear hHeld
    go_wp2_with fail
    go_ret
    exact ⟨rfl, BWH⟩
  obtain ⟨rfl, rfl, hs8g⟩ := HG8.out.1 hgE
  have hDD := HF.out.2.2.2.2.2.1 hgE
  have hql := B_len hgE
  obtain ⟨q, hq⟩ : ∃ q, g.B = q := ⟨_, rfl⟩
  rw [hq] at hs8g hDD hql
  rw [hq]
  obtain ⟨D, hD⟩ : ∃ D, decide (p = q) = D := ⟨_, rfl⟩
  have HQ := hid (And.intro hql.2 (And.intro hs8g.1 (And.intro hD (hDD.symm.trans hD))))
  clear hgE hDD hql hs8g hD hq
  cases D
  case false =>
    go_wp2_with fail
    refine wp_region_held_drew (S := fun w' => w'.cell? ⟨w.heap.size, 0, none⟩ = some (.int .i64 f.kind) ∧ w'.cell? ⟨w.heap.size, 1, none⟩ = some (.int .i64 f.fr) ∧ w'.cell? ⟨w.heap.size, 2, none⟩ = some (.int .i64 f.tt) ∧ w'.cell? ⟨w.heap.size, 3, none⟩ = some (.int .i64 f.life) ∧ w'.cell? ⟨w.heap.size, 4, none⟩ = some (.int .i64 f.seen) ∧ w'.cell? ⟨w.heap.size, 5, none⟩ = some (.bool f.out) ∧ w'.cell? ⟨w.heap.size, 6, none⟩ = some (.int .i64 f.count) ∧ w'.cell? ⟨w.heap.size, 7, none⟩ = some (.int .i64 f.founder) ∧ w'.cell? ⟨w.heap.size, 8, none⟩ = some (.int .i64 f.hop) ∧ w'.cell? ⟨w.heap.size, 9, none⟩ = some (.slice f.MA f.ms.length f.mc) ∧ w'.cell? ⟨w.heap.size, 10, none⟩ = some (.slice f.EA f.es.length f.ec) ∧ w'.cell? ⟨gb, 0, none⟩ = some (.int .i64 g.kind) ∧ w'.cell? ⟨gb, 1, none⟩ = some (.int .i64 g.fr) ∧ w'.cell? ⟨gb, 2, none⟩ = some (.int .i64 g.tt) ∧ w'.cell? ⟨gb, 3, none⟩ = some (.int .i64 g.life) ∧ w'.cell? ⟨gb, 4, none⟩ = some (.int .i64 g.seen) ∧ w'.cell? ⟨gb, 5, none⟩ = some (.bool g.out) ∧ w'.cell? ⟨gb, 6, none⟩ = some (.int .i64 g.count) ∧ w'.cell? ⟨gb, 7, none⟩ = some (.int .i64 g.founder) ∧ w'.cell? ⟨gb, 8, none⟩ = some (.int .i64 g.hop) ∧ w'.cell? ⟨gb, 9, none⟩ = some (.slice g.MA g.ms.length g.mc) ∧ w'.cell? ⟨gb, 10, none⟩ = some (.slice g.EA g.es.length g.ec) ∧ w'.cell? ⟨yb, 0, none⟩ = some (.int .i64 y.kind) ∧ w'.cell? ⟨yb, 1, none⟩ = some (.int .i64 y.fr) ∧ w'.cell? ⟨yb, 2, none⟩ = some (.int .i64 y.tt) ∧ w'.cell? ⟨yb, 3, none⟩ = some (.int .i64 y.life) ∧ w'.cell? ⟨yb, 4, none⟩ = some (.int .i64 y.seen) ∧ w'.cell? ⟨yb, 5, none⟩ = some (.bool y.out) ∧ w'.cell? ⟨yb, 6, none⟩ = some (.int .i64 y.count) ∧ w'.cell? ⟨yb, 7, none⟩ = some (.int .i64 y.founder) ∧ w'.cell? ⟨yb, 8, none⟩ = some (.int .i64 y.hop) ∧ w'.cell? ⟨yb, 9, none⟩ = some (.slice y.MA y.ms.length y.mc) ∧ w'.cell? ⟨yb, 10, none⟩ = some (.slice y.EA y.es.length y.ec)) (by kernel_rfl) ?_ (fun hHeld => ?_)
    · (try dsimp only); (first | exact HTW.out _ xG gG yG | exact HTW.out _ xH gH yH | exact HTW.out _ xI gI yI | exact HTW.out _ xJ gJ yJ)
    refine held_take 0 ?_ rfl (by kernel_rfl) (by kernel_rfl) (by kernel_rfl) (fun _ _ _ h => h) (by rfl) ?_ hHeld ?_
    rotate_left
    · (intro w hSw; (try dsimp only at hSw); go_simp; try with_reducible rfl)
    try simp only [Act.put, List.setIfInBounds_toArray, List.set_cons_zero, List.set_cons_succ]
    refine held_take 1 ?_ rfl (by kernel_rfl) (by kernel_rfl) (by kernel_rfl) (fun _ _ _ h => h) (by rfl) ?_ hHeld ?_
    rotate_left
    · (intro w hSw; (try dsimp only at hSw); go_simp; try with_reducible rfl)
    try simp only [Act.put, List.setIfInBounds_toArray, List.set_cons_zero, List.set_cons_succ]
    refine held_take 2 ?_ rfl (by kernel_rfl) (by kernel_rfl) (by kernel_rfl) (fun _ _ _ h => h) (by rfl) ?_ hHeld ?_
    rotate_left
    · (intro w hSw; (try dsimp only at hSw); go_simp; try with_reducible rfl)
    try simp only [Act.put, List.setIfInBounds_toArray, List.set_cons_zero, List.set_cons_succ]
    refine held_take 3 ?_ rfl (by kernel_rfl) (by kernel_rfl) (by kernel_rfl) (fun _ _ _ h => h) (by rfl) ?_ hHeld ?_
    rotate_left
    · (intro w hSw; (try dsimp only at hSw); go_simp; try with_reducible rfl)
    try simp only [Act.put, List.setIfInBounds_toArray, List.set_cons_zero, List.set_cons_succ]
    refine held_take 4 ?_ rfl (by kernel_rfl) (by kernel_rfl) (by kernel_rfl) (fun _ _ _ h => h) (by rfl) ?_ hHeld ?_
    rotate_left
    · (intro w hSw; (try dsimp only at hSw); go_simp; try with_reducible rfl)
    try simp only [Act.put, List.setIfInBounds_toArray, List.set_cons_zero, List.set_cons_succ]
    refine held_take 5 ?_ rfl (by kernel_rfl) (by kernel_rfl) (by kernel_rfl) (fun _ _ _ h => h) (by rfl) ?_ hHeld ?_
    rotate_left
    · (intro w hSw; (try dsimp only at hSw); go_simp; try with_reducible rfl)
    try simp only [Act.put, List.setIfInBounds_toArray, List.set_cons_zero, List.set_cons_succ]
    refine held_take 6 ?_ rfl (by kernel_rfl) (by kernel_rfl) (by kernel_rfl) (fun _ _ _ h => h) (by rfl) ?_ hHeld ?_
    rotate_left
    · (intro w hSw; (try dsimp only at hSw); go_simp; try with_reducible rfl)
    try simp only [Act.put, List.setIfInBounds_toArray, List.set_cons_zero, List.set_cons_succ]
    refine held_take 7 ?_ rfl (by kernel_rfl) (by kernel_rfl) (by kernel_rfl) (fun _ _ _ h => h) (by rfl) ?_ hHeld ?_
    rotate_left
    · (intro w hSw; (try dsimp only at hSw); go_simp; try with_reducible rfl)
    try simp only [Act.put, List.setIfInBounds_toArray, List.set_cons_zero, List.set_cons_succ]
    refine held_one 8 rfl (by kernel_rfl) (by rfl) (fun K hK => ?_)
    go_simp
    refine hsm.mono ?_
    rintro e wH ⟨rfl, hbH⟩
    have xH := (Eff.of_below (S := fun _ => False) hbH).blk xG (fun h => h)
    have gH := (Eff.of_below (S := fun _ => False) hbH).blk gG (fun h => h)
    have yH := (Eff.of_below (S := fun _ => False) hbH).blk yG (fun h => h)
    have BWH := BW.trans (hbH.mono BW.size)
    have B8H := BG8.trans (hbH.mono BG8.size)
    clear q0 q1 q2 q3 q4 q5 q6 q7 q8 q9 q10 r0 r1 r2 r3 r4 r5 r6 r7 r8 r9 r10
    have hsb := sameBytes_any A7 A8 k7 k8 p q wH (It2 HS.out.1 B8H) (It2 HQ.out.2.1 B8H) (by unfold maxLen; omega) (by have := HQ.out.1; unfold maxLen; omega)
    rw [HQ.out.2.2.1] at hsb
    refine hK.out _ _ ?_ (fun hHeld2 => ?_)
    · (try dsimp only); (first | exact HTW.out _ xG gG yG | exact HTW.out _ xH gH yH | exact HTW.out _ xI gI yI | exact HTW.out _ xJ gJ yJ)
    clear hK K hHeld
    have hHeld := hHeld2
    clear hHeld2
    try simp only [Act.put, List.setIfInBounds_toArray, List.set_cons_zero, List.set_cons_succ]
    refine held_take 9 ?_ rfl (by kernel_rfl) (by kernel_rfl) (by kernel_rfl) (fun _ _ _ h => h) (by rfl) ?_ hHeld ?_
    rotate_left
    · (intro w hSw; (try dsimp only at hSw); go_simp; try with_reducible rfl)
    try simp only [Act.put, List.setIfInBounds_toArray, List.set_cons_zero, List.set_cons_succ]
    refine held_take 10 ?_ rfl (by kernel_rfl) (by kernel_rfl) (by kernel_rfl) (fun _ _ _ h => h) (by rfl) ?_ hHeld ?_
    rotate_left
    · (intro w hSw; (try dsimp only at hSw); go_simp; try with_reducible rfl)
    try simp only [Act.put, List.setIfInBounds_toArray, List.set_cons_zero, List.set_cons_succ]
    refine held_take 11 ?_ rfl (by kernel_rfl) (by kernel_rfl) (by kernel_rfl) (fun _ _ _ h => h) (by rfl) ?_ hHeld ?_
    rotate_left
    · (intro w hSw; (try dsimp only at hSw); go_simp; try with_reducible rfl)
    try simp only [Act.put, List.setIfInBounds_toArray, List.set_cons_zero, List.set_cons_succ]
    refine held_take 12 ?_ rfl (by kernel_rfl) (by kernel_rfl) (by kernel_rfl) (fun _ _ _ h => h) (by rfl) ?_ hHeld ?_
    rotate_left
    · (intro w hSw; (try dsimp only at hSw); go_simp; try with_reducible rfl)
    try simp only [Act.put, List.setIfInBounds_toArray, List.set_cons_zero, List.set_cons_succ]
    refine held_take 13 ?_ rfl (by kernel_rfl) (by kernel_rfl) (by kernel_rfl) (fun _ _ _ h => h) (by rfl) ?_ hHeld ?_
    rotate_left
    · (intro w hSw; (try dsimp only at hSw); go_simp; try with_reducible rfl)
    try simp only [Act.put, List.setIfInBounds_toArray, List.set_cons_zero, List.set_cons_succ]
    refine held_take 14 ?_ rfl (by kernel_rfl) (by kernel_rfl) (by kernel_rfl) (fun _ _ _ h => h) (by rfl) ?_ hHeld ?_
    rotate_left
    · (intro w hSw; (try dsimp only at hSw); go_simp; try with_reducible rfl)
    try simp only [Act.put, List.setIfInBounds_toArray, List.set_cons_zero, List.set_cons_succ]
    refine held_take 15 ?_ rfl (by kernel_rfl) (by kernel_rfl) (by kernel_rfl) (fun _ _ _ h => h) (by rfl) ?_ hHeld ?_
    rotate_left
    · (intro w hSw; (try dsimp only at hSw); go_simp; try with_reducible rfl)
    try simp only [Act.put, List.setIfInBounds_toArray, List.set_cons_zero, List.set_cons_succ]
    refine held_take 16 ?_ rfl (by kernel_rfl) (by kernel_rfl) (by kernel_rfl) (fun _ _ _ h => h) (by rfl) ?_ hHeld ?_
    rotate_left
    · (intro w hSw; (try dsimp only at hSw); go_simp; try with_reducible rfl)
    try simp only [Act.put, List.setIfInBounds_toArray, List.set_cons_zero, List.set_cons_succ]
    refine held_take 17 ?_ rfl (by kernel_rfl) (by kernel_rfl) (by kernel_rfl) (fun _ _ _ h => h) (by rfl) ?_ hHeld ?_
    rotate_left
    · (intro w hSw; (try dsimp only at hSw); go_simp; try with_reducible rfl)
    try simp only [Act.put, List.setIfInBounds_toArray, List.set_cons_zero, List.set_cons_succ]
    refine held_take 18 ?_ rfl (by kernel_rfl) (by kernel_rfl) (by kernel_rfl) (fun _ _ _ h => h) (by rfl) ?_ hHeld ?_
    rotate_left
    · (intro w hSw; (try dsimp only at hSw); go_simp; try with_reducible rfl)
    try simp only [Act.put, List.setIfInBounds_toArray, List.set_cons_zero, List.set_cons_succ]
    refine held_take 19 ?_ rfl (by kernel_rfl) (by kernel_rfl) (by kernel_rfl) (fun _ _ _ h => h) (by rfl) ?_ hHeld ?_
    rotate_left
    · (intro w hSw; (try dsimp only at hSw); go_simp; try with_reducible rfl)
    try simp only [Act.put, List.setIfInBounds_toArray, List.set_cons_zero, List.set_cons_succ]
    refine held_take 20 ?_ rfl (by kernel_rfl) (by kernel_rfl) (by kernel_rfl) (fun _ _ _ h => h) (by rfl) ?_ hHeld ?_
    rotate_left
    · (intro w hSw; (try dsimp only at hSw); go_simp; try with_reducible rfl)
    try simp only [Act.put, List.setIfInBounds_toArray, List.set_cons_zero, List.set_cons_succ]
    refine held_take 21 ?_ rfl (by kernel_rfl) (by kernel_rfl) (by kernel_rfl) (fun _ _ _ h => h) (by rfl) ?_ hHeld ?_
    rotate_left
    · (intro w hSw; (try dsimp only at hSw); go_simp; try with_reducible rfl)
    try simp only [Act.put, List.setIfInBounds_toArray, List.set_cons_zero, List.set_cons_succ]
    refine held_take 22 ?_ rfl (by kernel_rfl) (by kernel_rfl) (by kernel_rfl) (fun _ _ _ h => h) (by rfl) ?_ hHeld ?_
    rotate_left
    · (intro w hSw; (try dsimp only at hSw); go_simp; try with_reducible rfl)
    try simp only [Act.put, List.setIfInBounds_toArray, List.set_cons_zero, List.set_cons_succ]
    refine held_take 23 ?_ rfl (by kernel_rfl) (by kernel_rfl) (by kernel_rfl) (fun _ _ _ h => h) (by rfl) ?_ hHeld ?_
    rotate_left
    · (intro w hSw; (try dsimp only at hSw); go_simp; try with_reducible rfl)
    try simp only [Act.put, List.setIfInBounds_toArray, List.set_cons_zero, List.set_cons_succ]
    refine held_take 25 ?_ rfl (by kernel_rfl) (by kernel_rfl) (by kernel_rfl) (fun _ _ _ h => h) (by rfl) ?_ hHeld ?_
    rotate_left
    · (intro w hSw; (try dsimp only at hSw); go_simp; try with_reducible rfl)
    try simp only [Act.put, List.setIfInBounds_toArray, List.set_cons_zero, List.set_cons_succ]
    refine held_take 26 ?_ rfl (by kernel_rfl) (by kernel_rfl) (by kernel_rfl) (fun _ _ _ h => h) (by rfl) ?_ hHeld ?_
    rotate_left
    · (intro w hSw; (try dsimp only at hSw); go_simp; try with_reducible rfl)
    try simp only [Act.put, List.setIfInBounds_toArray, List.set_cons_zero, List.set_cons_succ]
    refine held_one 24 rfl (by kernel_rfl) (by rfl) (fun K hK => ?_)
    go_simp
    refine hsb.mono ?_
    rintro e w' ⟨rfl, nq, rfl⟩
    have hbI := below_drewN (Below.refl wH.heap.size wH) nq
    have xI := (Eff.of_below (S := fun _ => False) hbI).blk xH (fun h => h)
    have gI := (Eff.of_below (S := fun _ => False) hbI).blk gH (fun h => h)
    have yI := (Eff.of_below (S := fun _ => False) hbI).blk yH (fun h => h)
    have BWI := BWH.trans (hbI.mono BWH.size)
    generalize wH.drewN nq = wI at *
    have q0 : wI.cell? ⟨w.heap.size, 0, none⟩ = some (.int .i64 f.kind) := xI.cell 0
    have q1 : wI.cell? ⟨w.heap.size, 1, none⟩ = some (.int .i64 f.fr) := xI.cell 1
    have q2 : wI.cell? ⟨w.heap.size, 2, none⟩ = some (.int .i64 f.tt) := xI.cell 2
    have q3 : wI.cell? ⟨w.heap.size, 3, none⟩ = some (.int .i64 f.life) := xI.cell 3
    have q4 : wI.cell? ⟨w.heap.size, 4, none⟩ = some (.int .i64 f.seen) := xI.cell 4
    have q5 : wI.cell? ⟨w.heap.size, 5, none⟩ = some (.bool f.out) := xI.cell 5
    have q6 : wI.cell? ⟨w.heap.size, 6, none⟩ = some (.int .i64 f.count) := xI.cell 6
    have q7 : wI.cell? ⟨w.heap.size, 7, none⟩ = some (.int .i64 f.founder) := xI.cell 7
    have q8 : wI.cell? ⟨w.heap.size, 8, none⟩ = some (.int .i64 f.hop) := xI.cell 8
    have q9 : wI.cell? ⟨w.heap.size, 9, none⟩ = some (.slice f.MA f.ms.length f.mc) := xI.cell 9
    have q10 : wI.cell? ⟨w.heap.size, 10, none⟩ = some (.slice f.EA f.es.length f.ec) := xI.cell 10
    have r0 : wI.cell? ⟨gb, 0, none⟩ = some (.int .i64 g.kind) := gI.cell 0
    have r1 : wI.cell? ⟨gb, 1, none⟩ = some (.int .i64 g.fr) := gI.cell 1
    have r2 : wI.cell? ⟨gb, 2, none⟩ = some (.int .i64 g.tt) := gI.cell 2
    have r3 : wI.cell? ⟨gb, 3, none⟩ = some (.int .i64 g.life) := gI.cell 3
    have r4 : wI.cell? ⟨gb, 4, none⟩ = some (.int .i64 g.seen) := gI.cell 4
    have r5 : wI.cell? ⟨gb, 5, none⟩ = some (.bool g.out) := gI.cell 5
    have r6 : wI.cell? ⟨gb, 6, none⟩ = some (.int .i64 g.count) := gI.cell 6
    have r7 : wI.cell? ⟨gb, 7, none⟩ = some (.int .i64 g.founder) := gI.cell 7
    have r8 : wI.cell? ⟨gb, 8, none⟩ = some (.int .i64 g.hop) := gI.cell 8
    have r9 : wI.cell? ⟨gb, 9, none⟩ = some (.slice g.MA g.ms.length g.mc) := gI.cell 9
    have r10 : wI.cell? ⟨gb, 10, none⟩ = some (.slice g.EA g.es.length g.ec) := gI.cell 10
    have hsg := sameF_any f g wI (H0.out.1.on BWI) (H0.out.2.1.on BWI)
    rw [HQ.out.2.2.2] at hsg
    refine hK.out _ _ ?_ (fun hHeld2 => ?_)
    · (try dsimp only); (first | exact HTW.out _ xG gG yG | exact HTW.out _ xH gH yH | exact HTW.out _ xI gI yI | exact HTW.out _ xJ gJ yJ)
    clear hK K hHeld
    have hHeld := hHeld2
    clear hHeld2
    try simp only [Act.put, List.setIfInBounds_toArray, List.set_cons_zero, List.set_cons_succ]
    refine held_one 27 rfl (by kernel_rfl) (by rfl) (fun K hK => ?_)
    go_simp
    refine hsg.mono ?_
    rintro e wJ ⟨rfl, hbJ⟩
    have xJ := (Eff.of_below (S := fun _ => False) hbJ).blk xI (fun h => h)
    have gJ := (Eff.of_below (S := fun _ => False) hbJ).blk gI (fun h => h)
    have yJ := (Eff.of_below (S := fun _ => False) hbJ).blk yI (fun h => h)
    have BWJ := BWI.trans (hbJ.mono BWI.size)
    refine hK.out _ _ ?_ (fun hHeld2 => ?_)
    · (try dsimp only); (first | exact HTW.out _ xG gG yG | exact HTW.out _ xH gH yH | exact HTW.out _ xI gI yI | exact HTW.out _ xJ gJ yJ)
    clear hK K hHeld
    have hHeld := hHeld2
    clear hHeld2
    try simp only [Act.put, List.setIfInBounds_toArray, List.set_cons_zero, List.set_cons_succ]
    refine held_take 28 ?_ rfl (by kernel_rfl) (by kernel_rfl) (by kernel_rfl) (fun _ _ _ h => h) (by rfl) ?_ hHeld ?_
    rotate_left
    · (intro w hSw; (try dsimp only at hSw); go_simp; try with_reducible rfl)
    try simp only [Act.put, List.setIfInBounds_toArray, List.set_cons_zero, List.set_cons_succ]
    refine held_take 29 ?_ rfl (by kernel_rfl) (by kernel_rfl) (by kernel_rfl) (fun _ _ _ h => h) (by rfl) ?_ hHeld ?_
    rotate_left
    · (intro w hSw; (try dsimp only at hSw); go_simp; try with_reducible rfl)
    try simp only [Act.put, List.setIfInBounds_toArray, List.set_cons_zero, List.set_cons_succ]
    refine held_take 30 ?_ rfl (by kernel_rfl) (by kernel_rfl) (by kernel_rfl) (fun _ _ _ h => h) (by rfl) ?_ hHeld ?_
    rotate_left
    · (intro w hSw; (try dsimp only at hSw); go_simp; try with_reducible rfl)
    try simp only [Act.put, List.setIfInBounds_toArray, List.set_cons_zero, List.set_cons_succ]
    refine held_take 31 ?_ rfl (by kernel_rfl) (by kernel_rfl) (by kernel_rfl) (fun _ _ _ h => h) (by rfl) ?_ hHeld ?_
    rotate_left
    · (intro w hSw; (try dsimp only at hSw); go_simp; try with_reducible rfl)
    try simp only [Act.put, List.setIfInBounds_toArray, List.set_cons_zero, List.set_cons_succ]
    refine wpAnyH_done (by kernel_rfl) ?_ _
    clear hHeld
    go_wp2_with fail
    go_ret
    exact ⟨rfl, BWJ⟩
  case true =>
    go_wp2_with fail
    refine wp_region_held_drew (S := fun w' => w'.cell? ⟨w.heap.size, 0, none⟩ = some (.int .i64 f.kind) ∧ w'.cell? ⟨w.heap.size, 1, none⟩ = some (.int .i64 f.fr) ∧ w'.cell? ⟨w.heap.size, 2, none⟩ = some (.int .i64 f.tt) ∧ w'.cell? ⟨w.heap.size, 3, none⟩ = some (.int .i64 f.life) ∧ w'.cell? ⟨w.heap.size, 4, none⟩ = some (.int .i64 f.seen) ∧ w'.cell? ⟨w.heap.size, 5, none⟩ = some (.bool f.out) ∧ w'.cell? ⟨w.heap.size, 6, none⟩ = some (.int .i64 f.count) ∧ w'.cell? ⟨w.heap.size, 7, none⟩ = some (.int .i64 f.founder) ∧ w'.cell? ⟨w.heap.size, 8, none⟩ = some (.int .i64 f.hop) ∧ w'.cell? ⟨w.heap.size, 9, none⟩ = some (.slice f.MA f.ms.length f.mc) ∧ w'.cell? ⟨w.heap.size, 10, none⟩ = some (.slice f.EA f.es.length f.ec) ∧ w'.cell? ⟨gb, 0, none⟩ = some (.int .i64 g.kind) ∧ w'.cell? ⟨gb, 1, none⟩ = some (.int .i64 g.fr) ∧ w'.cell? ⟨gb, 2, none⟩ = some (.int .i64 g.tt) ∧ w'.cell? ⟨gb, 3, none⟩ = some (.int .i64 g.life) ∧ w'.cell? ⟨gb, 4, none⟩ = some (.int .i64 g.seen) ∧ w'.cell? ⟨gb, 5, none⟩ = some (.bool g.out) ∧ w'.cell? ⟨gb, 6, none⟩ = some (.int .i64 g.count) ∧ w'.cell? ⟨gb, 7, none⟩ = some (.int .i64 g.founder) ∧ w'.cell? ⟨gb, 8, none⟩ = some (.int .i64 g.hop) ∧ w'.cell? ⟨gb, 9, none⟩ = some (.slice g.MA g.ms.length g.mc) ∧ w'.cell? ⟨gb, 10, none⟩ = some (.slice g.EA g.es.length g.ec) ∧ w'.cell? ⟨yb, 0, none⟩ = some (.int .i64 y.kind) ∧ w'.cell? ⟨yb, 1, none⟩ = some (.int .i64 y.fr) ∧ w'.cell? ⟨yb, 2, none⟩ = some (.int .i64 y.tt) ∧ w'.cell? ⟨yb, 3, none⟩ = some (.int .i64 y.life) ∧ w'.cell? ⟨yb, 4, none⟩ = some (.int .i64 y.seen) ∧ w'.cell? ⟨yb, 5, none⟩ = some (.bool y.out) ∧ w'.cell? ⟨yb, 6, none⟩ = some (.int .i64 y.count) ∧ w'.cell? ⟨yb, 7, none⟩ = some (.int .i64 y.founder) ∧ w'.cell? ⟨yb, 8, none⟩ = some (.int .i64 y.hop) ∧ w'.cell? ⟨yb, 9, none⟩ = some (.slice y.MA y.ms.length y.mc) ∧ w'.cell? ⟨yb, 10, none⟩ = some (.slice y.EA y.es.length y.ec)) (by kernel_rfl) ?_ (fun hHeld => ?_)
    · (try dsimp only); (first | exact HTW.out _ xG gG yG | exact HTW.out _ xH gH yH | exact HTW.out _ xI gI yI | exact HTW.out _ xJ gJ yJ)
    refine held_take 0 ?_ rfl (by kernel_rfl) (by kernel_rfl) (by kernel_rfl) (fun _ _ _ h => h) (by rfl) ?_ hHeld ?_
    rotate_left
    · (intro w hSw; (try dsimp only at hSw); go_simp; try with_reducible rfl)
    try simp only [Act.put, List.setIfInBounds_toArray, List.set_cons_zero, List.set_cons_succ]
    refine held_take 1 ?_ rfl (by kernel_rfl) (by kernel_rfl) (by kernel_rfl) (fun _ _ _ h => h) (by rfl) ?_ hHeld ?_
    rotate_left
    · (intro w hSw; (try dsimp only at hSw); go_simp; try with_reducible rfl)
    try simp only [Act.put, List.setIfInBounds_toArray, List.set_cons_zero, List.set_cons_succ]
    refine held_take 2 ?_ rfl (by kernel_rfl) (by kernel_rfl) (by kernel_rfl) (fun _ _ _ h => h) (by rfl) ?_ hHeld ?_
    rotate_left
    · (intro w hSw; (try dsimp only at hSw); go_simp; try with_reducible rfl)
    try simp only [Act.put, List.setIfInBounds_toArray, List.set_cons_zero, List.set_cons_succ]
    refine held_take 3 ?_ rfl (by kernel_rfl) (by kernel_rfl) (by kernel_rfl) (fun _ _ _ h => h) (by rfl) ?_ hHeld ?_
    rotate_left
    · (intro w hSw; (try dsimp only at hSw); go_simp; try with_reducible rfl)
    try simp only [Act.put, List.setIfInBounds_toArray, List.set_cons_zero, List.set_cons_succ]
    refine held_take 4 ?_ rfl (by kernel_rfl) (by kernel_rfl) (by kernel_rfl) (fun _ _ _ h => h) (by rfl) ?_ hHeld ?_
    rotate_left
    · (intro w hSw; (try dsimp only at hSw); go_simp; try with_reducible rfl)
    try simp only [Act.put, List.setIfInBounds_toArray, List.set_cons_zero, List.set_cons_succ]
    refine held_take 5 ?_ rfl (by kernel_rfl) (by kernel_rfl) (by kernel_rfl) (fun _ _ _ h => h) (by rfl) ?_ hHeld ?_
    rotate_left
    · (intro w hSw; (try dsimp only at hSw); go_simp; try with_reducible rfl)
    try simp only [Act.put, List.setIfInBounds_toArray, List.set_cons_zero, List.set_cons_succ]
    refine held_take 6 ?_ rfl (by kernel_rfl) (by kernel_rfl) (by kernel_rfl) (fun _ _ _ h => h) (by rfl) ?_ hHeld ?_
    rotate_left
    · (intro w hSw; (try dsimp only at hSw); go_simp; try with_reducible rfl)
    try simp only [Act.put, List.setIfInBounds_toArray, List.set_cons_zero, List.set_cons_succ]
    refine held_take 7 ?_ rfl (by kernel_rfl) (by kernel_rfl) (by kernel_rfl) (fun _ _ _ h => h) (by rfl) ?_ hHeld ?_
    rotate_left
    · (intro w hSw; (try dsimp only at hSw); go_simp; try with_reducible rfl)
    try simp only [Act.put, List.setIfInBounds_toArray, List.set_cons_zero, List.set_cons_succ]
    refine held_one 8 rfl (by kernel_rfl) (by rfl) (fun K hK => ?_)
    go_simp
    refine hsm.mono ?_
    rintro e wH ⟨rfl, hbH⟩
    have xH := (Eff.of_below (S := fun _ => False) hbH).blk xG (fun h => h)
    have gH := (Eff.of_below (S := fun _ => False) hbH).blk gG (fun h => h)
    have yH := (Eff.of_below (S := fun _ => False) hbH).blk yG (fun h => h)
    have BWH := BW.trans (hbH.mono BW.size)
    have B8H := BG8.trans (hbH.mono BG8.size)
    clear q0 q1 q2 q3 q4 q5 q6 q7 q8 q9 q10 r0 r1 r2 r3 r4 r5 r6 r7 r8 r9 r10
    have hsb := sameBytes_any A7 A8 k7 k8 p q wH (It2 HS.out.1 B8H) (It2 HQ.out.2.1 B8H) (by unfold maxLen; omega) (by have := HQ.out.1; unfold maxLen; omega)
    rw [HQ.out.2.2.1] at hsb
    refine hK.out _ _ ?_ (fun hHeld2 => ?_)
    · (try dsimp only); (first | exact HTW.out _ xG gG yG | exact HTW.out _ xH gH yH | exact HTW.out _ xI gI yI | exact HTW.out _ xJ gJ yJ)
    clear hK K hHeld
    have hHeld := hHeld2
    clear hHeld2
    try simp only [Act.put, List.setIfInBounds_toArray, List.set_cons_zero, List.set_cons_succ]
    refine held_take 9 ?_ rfl (by kernel_rfl) (by kernel_rfl) (by kernel_rfl) (fun _ _ _ h => h) (by rfl) ?_ hHeld ?_
    rotate_left
    · (intro w hSw; (try dsimp only at hSw); go_simp; try with_reducible rfl)
    try simp only [Act.put, List.setIfInBounds_toArray, List.set_cons_zero, List.set_cons_succ]
    refine held_take 10 ?_ rfl (by kernel_rfl) (by kernel_rfl) (by kernel_rfl) (fun _ _ _ h => h) (by rfl) ?_ hHeld ?_
    rotate_left
    · (intro w hSw; (try dsimp only at hSw); go_simp; try with_reducible rfl)
    try simp only [Act.put, List.setIfInBounds_toArray, List.set_cons_zero, List.set_cons_succ]
    refine held_take 11 ?_ rfl (by kernel_rfl) (by kernel_rfl) (by kernel_rfl) (fun _ _ _ h => h) (by rfl) ?_ hHeld ?_
    rotate_left
    · (intro w hSw; (try dsimp only at hSw); go_simp; try with_reducible rfl)
    try simp only [Act.put, List.setIfInBounds_toArray, List.set_cons_zero, List.set_cons_succ]
    refine held_take 12 ?_ rfl (by kernel_rfl) (by kernel_rfl) (by kernel_rfl) (fun _ _ _ h => h) (by rfl) ?_ hHeld ?_
    rotate_left
    · (intro w hSw; (try dsimp only at hSw); go_simp; try with_reducible rfl)
    try simp only [Act.put, List.setIfInBounds_toArray, List.set_cons_zero, List.set_cons_succ]
    refine held_take 13 ?_ rfl (by kernel_rfl) (by kernel_rfl) (by kernel_rfl) (fun _ _ _ h => h) (by rfl) ?_ hHeld ?_
    rotate_left
    · (intro w hSw; (try dsimp only at hSw); go_simp; try with_reducible rfl)
    try simp only [Act.put, List.setIfInBounds_toArray, List.set_cons_zero, List.set_cons_succ]
    refine held_take 14 ?_ rfl (by kernel_rfl) (by kernel_rfl) (by kernel_rfl) (fun _ _ _ h => h) (by rfl) ?_ hHeld ?_
    rotate_left
    · (intro w hSw; (try dsimp only at hSw); go_simp; try with_reducible rfl)
    try simp only [Act.put, List.setIfInBounds_toArray, List.set_cons_zero, List.set_cons_succ]
    refine held_take 15 ?_ rfl (by kernel_rfl) (by kernel_rfl) (by kernel_rfl) (fun _ _ _ h => h) (by rfl) ?_ hHeld ?_
    rotate_left
    · (intro w hSw; (try dsimp only at hSw); go_simp; try with_reducible rfl)
    try simp only [Act.put, List.setIfInBounds_toArray, List.set_cons_zero, List.set_cons_succ]
    refine held_take 16 ?_ rfl (by kernel_rfl) (by kernel_rfl) (by kernel_rfl) (fun _ _ _ h => h) (by rfl) ?_ hHeld ?_
    rotate_left
    · (intro w hSw; (try dsimp only at hSw); go_simp; try with_reducible rfl)
    try simp only [Act.put, List.setIfInBounds_toArray, List.set_cons_zero, List.set_cons_succ]
    refine held_take 17 ?_ rfl (by kernel_rfl) (by kernel_rfl) (by kernel_rfl) (fun _ _ _ h => h) (by rfl) ?_ hHeld ?_
    rotate_left
    · (intro w hSw; (try dsimp only at hSw); go_simp; try with_reducible rfl)
    try simp only [Act.put, List.setIfInBounds_toArray, List.set_cons_zero, List.set_cons_succ]
    refine held_take 18 ?_ rfl (by kernel_rfl) (by kernel_rfl) (by kernel_rfl) (fun _ _ _ h => h) (by rfl) ?_ hHeld ?_
    rotate_left
    · (intro w hSw; (try dsimp only at hSw); go_simp; try with_reducible rfl)
    try simp only [Act.put, List.setIfInBounds_toArray, List.set_cons_zero, List.set_cons_succ]
    refine held_take 19 ?_ rfl (by kernel_rfl) (by kernel_rfl) (by kernel_rfl) (fun _ _ _ h => h) (by rfl) ?_ hHeld ?_
    rotate_left
    · (intro w hSw; (try dsimp only at hSw); go_simp; try with_reducible rfl)
    try simp only [Act.put, List.setIfInBounds_toArray, List.set_cons_zero, List.set_cons_succ]
    refine held_take 20 ?_ rfl (by kernel_rfl) (by kernel_rfl) (by kernel_rfl) (fun _ _ _ h => h) (by rfl) ?_ hHeld ?_
    rotate_left
    · (intro w hSw; (try dsimp only at hSw); go_simp; try with_reducible rfl)
    try simp only [Act.put, List.setIfInBounds_toArray, List.set_cons_zero, List.set_cons_succ]
    refine held_take 21 ?_ rfl (by kernel_rfl) (by kernel_rfl) (by kernel_rfl) (fun _ _ _ h => h) (by rfl) ?_ hHeld ?_
    rotate_left
    · (intro w hSw; (try dsimp only at hSw); go_simp; try with_reducible rfl)
    try simp only [Act.put, List.setIfInBounds_toArray, List.set_cons_zero, List.set_cons_succ]
    refine held_take 22 ?_ rfl (by kernel_rfl) (by kernel_rfl) (by kernel_rfl) (fun _ _ _ h => h) (by rfl) ?_ hHeld ?_
    rotate_left
    · (intro w hSw; (try dsimp only at hSw); go_simp; try with_reducible rfl)
    try simp only [Act.put, List.setIfInBounds_toArray, List.set_cons_zero, List.set_cons_succ]
    refine held_take 23 ?_ rfl (by kernel_rfl) (by kernel_rfl) (by kernel_rfl) (fun _ _ _ h => h) (by rfl) ?_ hHeld ?_
    rotate_left
    · (intro w hSw; (try dsimp only at hSw); go_simp; try with_reducible rfl)
    try simp only [Act.put, List.setIfInBounds_toArray, List.set_cons_zero, List.set_cons_succ]
    refine held_take 25 ?_ rfl (by kernel_rfl) (by kernel_rfl) (by kernel_rfl) (fun _ _ _ h => h) (by rfl) ?_ hHeld ?_
    rotate_left
    · (intro w hSw; (try dsimp only at hSw); go_simp; try with_reducible rfl)
    try simp only [Act.put, List.setIfInBounds_toArray, List.set_cons_zero, List.set_cons_succ]
    refine held_take 26 ?_ rfl (by kernel_rfl) (by kernel_rfl) (by kernel_rfl) (fun _ _ _ h => h) (by rfl) ?_ hHeld ?_
    rotate_left
    · (intro w hSw; (try dsimp only at hSw); go_simp; try with_reducible rfl)
    try simp only [Act.put, List.setIfInBounds_toArray, List.set_cons_zero, List.set_cons_succ]
    refine held_one 24 rfl (by kernel_rfl) (by rfl) (fun K hK => ?_)
    go_simp
    refine hsb.mono ?_
    rintro e w' ⟨rfl, nq, rfl⟩
    have hbI := below_drewN (Below.refl wH.heap.size wH) nq
    have xI := (Eff.of_below (S := fun _ => False) hbI).blk xH (fun h => h)
    have gI := (Eff.of_below (S := fun _ => False) hbI).blk gH (fun h => h)
    have yI := (Eff.of_below (S := fun _ => False) hbI).blk yH (fun h => h)
    have BWI := BWH.trans (hbI.mono BWH.size)
    generalize wH.drewN nq = wI at *
    have q0 : wI.cell? ⟨w.heap.size, 0, none⟩ = some (.int .i64 f.kind) := xI.cell 0
    have q1 : wI.cell? ⟨w.heap.size, 1, none⟩ = some (.int .i64 f.fr) := xI.cell 1
    have q2 : wI.cell? ⟨w.heap.size, 2, none⟩ = some (.int .i64 f.tt) := xI.cell 2
    have q3 : wI.cell? ⟨w.heap.size, 3, none⟩ = some (.int .i64 f.life) := xI.cell 3
    have q4 : wI.cell? ⟨w.heap.size, 4, none⟩ = some (.int .i64 f.seen) := xI.cell 4
    have q5 : wI.cell? ⟨w.heap.size, 5, none⟩ = some (.bool f.out) := xI.cell 5
    have q6 : wI.cell? ⟨w.heap.size, 6, none⟩ = some (.int .i64 f.count) := xI.cell 6
    have q7 : wI.cell? ⟨w.heap.size, 7, none⟩ = some (.int .i64 f.founder) := xI.cell 7
    have q8 : wI.cell? ⟨w.heap.size, 8, none⟩ = some (.int .i64 f.hop) := xI.cell 8
    have q9 : wI.cell? ⟨w.heap.size, 9, none⟩ = some (.slice f.MA f.ms.length f.mc) := xI.cell 9
    have q10 : wI.cell? ⟨w.heap.size, 10, none⟩ = some (.slice f.EA f.es.length f.ec) := xI.cell 10
    have r0 : wI.cell? ⟨gb, 0, none⟩ = some (.int .i64 g.kind) := gI.cell 0
    have r1 : wI.cell? ⟨gb, 1, none⟩ = some (.int .i64 g.fr) := gI.cell 1
    have r2 : wI.cell? ⟨gb, 2, none⟩ = some (.int .i64 g.tt) := gI.cell 2
    have r3 : wI.cell? ⟨gb, 3, none⟩ = some (.int .i64 g.life) := gI.cell 3
    have r4 : wI.cell? ⟨gb, 4, none⟩ = some (.int .i64 g.seen) := gI.cell 4
    have r5 : wI.cell? ⟨gb, 5, none⟩ = some (.bool g.out) := gI.cell 5
    have r6 : wI.cell? ⟨gb, 6, none⟩ = some (.int .i64 g.count) := gI.cell 6
    have r7 : wI.cell? ⟨gb, 7, none⟩ = some (.int .i64 g.founder) := gI.cell 7
    have r8 : wI.cell? ⟨gb, 8, none⟩ = some (.int .i64 g.hop) := gI.cell 8
    have r9 : wI.cell? ⟨gb, 9, none⟩ = some (.slice g.MA g.ms.length g.mc) := gI.cell 9
    have r10 : wI.cell? ⟨gb, 10, none⟩ = some (.slice g.EA g.es.length g.ec) := gI.cell 10
    have hsg := sameF_any f g wI (H0.out.1.on BWI) (H0.out.2.1.on BWI)
    rw [HQ.out.2.2.2] at hsg
    refine hK.out _ _ ?_ (fun hHeld2 => ?_)
    · (try dsimp only); (first | exact HTW.out _ xG gG yG | exact HTW.out _ xH gH yH | exact HTW.out _ xI gI yI | exact HTW.out _ xJ gJ yJ)
    clear hK K hHeld
    have hHeld := hHeld2
    clear hHeld2
    try simp only [Act.put, List.setIfInBounds_toArray, List.set_cons_zero, List.set_cons_succ]
    refine held_one 27 rfl (by kernel_rfl) (by rfl) (fun K hK => ?_)
    go_simp
    refine hsg.mono ?_
    rintro e wJ ⟨rfl, hbJ⟩
    have xJ := (Eff.of_below (S := fun _ => False) hbJ).blk xI (fun h => h)
    have gJ := (Eff.of_below (S := fun _ => False) hbJ).blk gI (fun h => h)
    have yJ := (Eff.of_below (S := fun _ => False) hbJ).blk yI (fun h => h)
    have BWJ := BWI.trans (hbJ.mono BWI.size)
    refine hK.out _ _ ?_ (fun hHeld2 => ?_)
    · (try dsimp only); (first | exact HTW.out _ xG gG yG | exact HTW.out _ xH gH yH | exact HTW.out _ xI gI yI | exact HTW.out _ xJ gJ yJ)
    clear hK K hHeld
    have hHeld := hHeld2
    clear hHeld2
    try simp only [Act.put, List.setIfInBounds_toArray, List.set_cons_zero, List.set_cons_succ]
    refine held_take 28 ?_ rfl (by kernel_rfl) (by kernel_rfl) (by kernel_rfl) (fun _ _ _ h => h) (by rfl) ?_ hHeld ?_
    rotate_left
    · (intro w hSw; (try dsimp only at hSw); go_simp; try with_reducible rfl)
    try simp only [Act.put, List.setIfInBounds_toArray, List.set_cons_zero, List.set_cons_succ]
    refine held_take 29 ?_ rfl (by kernel_rfl) (by kernel_rfl) (by kernel_rfl) (fun _ _ _ h => h) (by rfl) ?_ hHeld ?_
    rotate_left
    · (intro w hSw; (try dsimp only at hSw); go_simp; try with_reducible rfl)
    try simp only [Act.put, List.setIfInBounds_toArray, List.set_cons_zero, List.set_cons_succ]
    refine held_take 30 ?_ rfl (by kernel_rfl) (by kernel_rfl) (by kernel_rfl) (fun _ _ _ h => h) (by rfl) ?_ hHeld ?_
    rotate_left
    · (intro w hSw; (try dsimp only at hSw); go_simp; try with_reducible rfl)
    try simp only [Act.put, List.setIfInBounds_toArray, List.set_cons_zero, List.set_cons_succ]
    refine held_take 31 ?_ rfl (by kernel_rfl) (by kernel_rfl) (by kernel_rfl) (fun _ _ _ h => h) (by rfl) ?_ hHeld ?_
    rotate_left
    · (intro w hSw; (try dsimp only at hSw); go_simp; try with_reducible rfl)
    try simp only [Act.put, List.setIfInBounds_toArray, List.set_cons_zero, List.set_cons_succ]
    refine wpAnyH_done (by kernel_rfl) ?_ _
    clear hHeld
    go_wp2_with fail
    go_ret
    exact ⟨rfl, BWJ⟩
end Go.Proofs.YtogcbiooddodlaaDoor
