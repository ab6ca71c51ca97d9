/- Frames: ring: the walk. -/
import Derived.Test.YtogcbiooddodlaaDoorFrameRing
namespace Go.Proofs.YtogcbiooddodlaaDoor
open Go.RowKit
set_option linter.unusedSimpArgs false

def RingO (ad : Int → Addr) (W w : World) (lo r : Nat) (bs : List Int) (x : RingP × RS) (e : Ending) (w' : World) : Prop := ∃ (MA : Option Addr) (mc : Nat) (EA : Option Addr) (es : List EntL) (ec : Nat),
  e = .returned (.agg (ringV x.1.1 x.1.2.1 x.1.2.2.1 MA x.1.2.2.2.1.length mc EA es.length ec)) ∧ es.map EntL.pl = x.1.2.2.2.2 ∧ RingIs w' MA x.1.2.2.2.1 EA es ∧ RdSt ad W w' lo r bs x.2 ∧ Eff (· = r) w w' ∧ ∀ q, (MA = some q ∨ EA = some q ∨ ∃ y ∈ es, y.A = some q) → w.heap.size ≤ q.block
def MemsRel (ad : Int → Addr) (W w0 : World) (lo r ob : Nat) (bs : List Int) (a b c : Int) (s : RS) (n : Nat) (i : Value) (wr : World) : Prop := ∃ (k : Nat) (v : Value), k ≤ n ∧ i = .int .i64 k ∧ RdSt ad W wr lo r bs (memsR bs k s).2 ∧
  Blk wr ob [.int .i64 a, .int .i64 b, .int .i64 c, v, .slice none 0 0] 53 ∧ wr.ownsRow w0.heap.size 3 1 v (memsR bs k s).1.length ((memsR bs k s).1.map (Value.int .i64)) ∧ Eff (fun q => q = r ∨ q = ob) w0 wr
def EntsRelR (ad : Int → Addr) (W w0 : World) (lo r ob : Nat) (bs : List Int) (a b c : Int) (mV : Value) (d : Int) (s : RS) (n : Nat) (i : Value) (wr : World) : Prop := ∃ (k : Nat) (v : Value) (es : List EntL), k ≤ n ∧ i = .int .i64 ((n - k : Nat) : Int) ∧ (entsR bs d k s).1 = es.map EntL.pl ∧ RdSt ad W wr lo r bs (entsR bs d k s).2 ∧
  Blk wr ob [.int .i64 a, .int .i64 b, .int .i64 c, mV, v] 53 ∧ EntS w0.heap.size wr v es ∧ (∀ e ∈ es, e.bids.length ≤ 16) ∧ Eff (fun q => q = r ∨ q = ob) w0 wr
def BidsRelR (ad : Int → Addr) (W w0 : World) (lo r eb : Nat) (bs : List Int) (fl di ge aw : Int) (s : RS) (n : Nat) (i : Value) (wr : World) : Prop := ∃ (k : Nat) (v : Value), k ≤ n ∧ i = .int .i64 k ∧ RdSt ad W wr lo r bs (bidsR bs k s).2 ∧
  Blk wr eb [.int .i64 fl, .int .i64 di, .int .i64 ge, v, .int .i64 aw] 62 ∧ wr.ownsRow w0.heap.size 59 2 v (bidsR bs k s).1.length ((bidsR bs k s).1.flatMap bidC) ∧ Eff (fun q => q = r ∨ q = eb) w0 wr
theorem mems_next {ad : Int → Addr} {W w7 w9 w10 : World} {lo r ob k n c10 : Nat} {bs : List Int} {a b c : Int} {s : RS} {v : Value} {m : List Int × RS} {x : Int × RS} {A10 : Option Addr} (hlo : lo ≤ r) (hobr : r < ob) (hw7 : ob < w7.heap.size) (hk : k < n) (hWob : W.heap.size ≤ ob) (hown9 : w9.ownsRow w7.heap.size 3 1 v m.1.length (m.1.map (Value.int .i64)))
    (s9 : RdSt ad W w9 lo r bs x.2) (e9 : Eff (fun q => q = r ∨ q = ob) w7 w9) (hM1 : memsR bs (k + 1) s = (m.1 ++ [x.1], x.2)) (hown10 : w10.ownsRow w7.heap.size 3 1 (.slice A10 (m.1.length + 1) c10) (m.1 ++ [x.1]).length ((m.1 ++ [x.1]).map (Value.int .i64)))
    (he10 : Eff (fun q => v.ownBlock = some q) w9 w10) (hx10 : Blk w10 ob [.int .i64 a, .int .i64 b, .int .i64 c, v, .slice none 0 0] 53) : MemsRel ad W w7 lo r ob bs a b c s n (.int .i64 ((k : Int) + 1)) (w10.setCell ⟨ob, 3, none⟩ (.slice A10 (m.1.length + 1) c10)) := by
  have hob10 : ∀ q, v.ownBlock = some q → ob < q ∧ w7.heap.size ≤ q := fun q hq => by have := (hown9.lt q hq).1; omega
  have e11 : Eff (· = ob) w10 (w10.setCell ⟨ob, 3, none⟩ (.slice A10 (m.1.length + 1) c10)) := (Eff.one ob w10).set 3 _
  refine ⟨k + 1, .slice A10 (m.1.length + 1) c10, by omega, by go_num, ?_, ?_, ?_, ?_⟩
  · rw [hM1]
    exact ⟨(s9.rd.eff he10 (fun q _ h2 h3 => by have := hob10 q h3; omega) (fun B cs hB h3 => row_type_ne hB hown9 (by decide) h3) hlo).eff e11 (fun q _ h2 h3 => by omega) (fun B cs hB h3 => by have h3 : B = ob := h3; exact hB.type_ne hx10 (by decide) h3) hlo,
      e11.below (he10.below s9.below s9.below.size (fun i hi h3 => by have := hob10 i h3; omega)) (Nat.le_trans s9.below.size he10.size) (fun i hi h3 => by omega)⟩
  · exact hx10.set 3 _
  · rw [hM1]
    exact e11.row hown10 (fun q hq h3 => by have h3 : q = ob := h3; have := (hown10.lt q hq).1; omega)
  · exact (e9.step he10 (fun i hi h3 => by have h4 := (hob10 i h3).2; omega)).step e11 (fun i hi h3 => .inr h3)
def RingFin (ad : Int → Addr) (W w9 : World) (lo r ob : Nat) (bs : List Int) (a b c : Int) (mV : Value) (X : List EntP × RS) (wx : World) : Prop := ∃ (v : Value) (es : List EntL), X.1 = es.map EntL.pl ∧ RdSt ad W wx lo r bs X.2 ∧
  Blk wx ob [.int .i64 a, .int .i64 b, .int .i64 c, mV, v] 53 ∧ EntS w9.heap.size wx v es ∧ (∀ e ∈ es, e.bids.length ≤ 16) ∧ es.length ≤ 128 ∧ Eff (fun q => q = r ∨ q = ob) w9 wx
attribute [irreducible] RingFin
theorem bidsR_next {ad : Int → Addr} {W w7 w9 w10 : World} {lo r eb k n c10 : Nat} {bs : List Int} {fl di ge aw : Int} {s : RS} {v : Value} {m : List (Int × Int) × RS} {x y : Int} {sy : RS} {A10 : Option Addr} (hlo : lo ≤ r) (hobr : r < eb) (hw7 : eb < w7.heap.size) (hk : k < n) (hWob : W.heap.size ≤ eb) (hown9 : w9.ownsRow w7.heap.size 59 2 v m.1.length (m.1.flatMap bidC))
    (s9 : RdSt ad W w9 lo r bs sy) (e9 : Eff (fun q => q = r ∨ q = eb) w7 w9) (hM1 : bidsR bs (k + 1) s = (m.1 ++ [(x, y)], sy)) (hown10 : w10.ownsRow w7.heap.size 59 2 (.slice A10 (m.1.length + 1) c10) (m.1 ++ [(x, y)]).length ((m.1 ++ [(x, y)]).flatMap bidC))
    (he10 : Eff (fun q => v.ownBlock = some q) w9 w10) (hx10 : Blk w10 eb [.int .i64 fl, .int .i64 di, .int .i64 ge, v, .int .i64 aw] 62) : BidsRelR ad W w7 lo r eb bs fl di ge aw s n (.int .i64 ((k : Int) + 1)) (w10.setCell ⟨eb, 3, none⟩ (.slice A10 (m.1.length + 1) c10)) := by
  have hob10 : ∀ q, v.ownBlock = some q → eb < q ∧ w7.heap.size ≤ q := fun q hq => by have := (hown9.lt q hq).1; omega
  have e11 : Eff (· = eb) w10 (w10.setCell ⟨eb, 3, none⟩ (.slice A10 (m.1.length + 1) c10)) := (Eff.one eb w10).set 3 _
  refine ⟨k + 1, .slice A10 (m.1.length + 1) c10, by omega, by go_num, ?_, ?_, ?_, ?_⟩
  · rw [hM1]
    exact ⟨(s9.rd.eff he10 (fun q _ h2 h3 => by have := hob10 q h3; omega) (fun B cs hB h3 => row_type_ne hB hown9 (by decide) h3) hlo).eff e11 (fun q _ h2 h3 => by omega) (fun B cs hB h3 => by have h3 : B = eb := h3; exact hB.type_ne hx10 (by decide) h3) hlo,
      e11.below (he10.below s9.below s9.below.size (fun i hi h3 => by have := hob10 i h3; omega)) (Nat.le_trans s9.below.size he10.size) (fun i hi h3 => by omega)⟩
  · exact hx10.set 3 _
  · rw [hM1]
    exact e11.row hown10 (fun q hq h3 => by have h3 : q = eb := h3; have := (hown10.lt q hq).1; omega)
  · exact (e9.step he10 (fun i hi h3 => by have h4 := (hob10 i h3).2; omega)).step e11 (fun i hi h3 => .inr h3)
theorem RdSt.set {ad : Int → Addr} {W w w' : World} {lo r ob : Nat} {bs : List Int} {s : RS} {cs : List Value} {E : TypeId} (h : RdSt ad W w lo r bs s) (hlo : lo ≤ r) (hob : r < ob) (hWob : W.heap.size ≤ ob) (hE : 108 ≠ E) (hx : Blk w ob cs E) (he : Eff (· = ob) w w') : RdSt ad W w' lo r bs s :=
  ⟨h.rd.eff he (fun k _ h2 h3 => by have h3 : k = ob := h3; omega) (fun B cs hB h3 => by have h3 : B = ob := h3; exact hB.type_ne hx hE h3) hlo, he.below h.below h.below.size (fun i hi h3 => by have h3 : i = ob := h3; omega)⟩
attribute [irreducible] MemsRel EntsRelR BidsRelR
set_option maxRecDepth 100000 in
set_option maxHeartbeats 8000000 in
theorem ring_any {ad : Int → Addr} {W : World} {lo r : Nat} {bs : List Int} {s : RS} (w : World) (hE : Errs3 ad W) (hrW : W.heap.size ≤ r) (hlo : lo ≤ r) (hrw : r < w.heap.size) (h : RdSt ad W w lo r bs s) :
    Calls Tryd.prog 59 #[.pointer (some ⟨r, 0, none⟩)] w (RingO ad W w lo r bs (ringR bs s)) := by
  obtain ⟨w1, hw1⟩ : ∃ w1, w1 = (w.alloc (.cells #[.int .i64 0, .int .i64 0, .int .i64 0, .slice none 0 0, .slice none 0 0] 53)).alloc (.cells #[.int .i64 0, .int .i64 0, .int .i64 0, .slice none 0 0, .slice none 0 0] 53) := ⟨_, rfl⟩
  have hb1 : Below w.heap.size w w1 := by rw [hw1]; exact ((Below.refl _ _).alloc (Nat.le_refl _) _).alloc (by simp) _
  have x0 : Blk w1 w.heap.size [.int .i64 0, .int .i64 0, .int .i64 0, .slice none 0 0, .slice none 0 0] 53 := by rw [hw1]; exact (Blk.new w _ _).alloc _
  have x1 : Blk w1 (w.heap.size + 1) [.int .i64 0, .int .i64 0, .int .i64 0, .slice none 0 0, .slice none 0 0] 53 := by
    rw [hw1, show w.heap.size + 1 = (w.alloc (.cells #[.int .i64 0, .int .i64 0, .int .i64 0, .slice none 0 0, .slice none 0 0] 53)).heap.size from by simp]
    exact Blk.new _ _ _
  have s1 : RdSt ad W w1 lo r bs s := ⟨h.rd.on hb1 hlo, h.below.trans (hb1.mono h.below.size)⟩
  have hWw := h.below.size
  clear h
  generalize hX : ringR bs s = X
  unfold ringR at hX
  obtain ⟨a, ha⟩ : ∃ a, numS bs 1 4294967295 s = a := ⟨_, rfl⟩
  obtain ⟨b, hb⟩ : ∃ b, numS bs 0 15 a.2 = b := ⟨_, rfl⟩
  obtain ⟨c, hc⟩ : ∃ c, numS bs 0 1099511627776 b.2 = c := ⟨_, rfl⟩
  obtain ⟨d, hd⟩ : ∃ d, numS bs 0 16 c.2 = d := ⟨_, rfl⟩
  have hdr := numS_range (bs := bs) (s := c.2) (low := 0) (high := 16) (by omega) (by omega)
  rw [hd] at hdr
  simp only [ha, hb, hc, hd] at hX
  go_enter Tryd.func59, Tryd.ntmps59
  go_upto_region 2 with (fail)
  rw [← hw1]
  clear hw1
  obtain ⟨ob, hob⟩ : ∃ ob, ob = w.heap.size + 1 := ⟨_, rfl⟩
  rw [← hob] at x1 ⊢
  have hobr : r < ob := by omega
  have hobw : w.heap.size < ob := by omega
  have hres : w.heap.size ≠ ob := by omega
  have hrres : r ≠ w.heap.size := by omega
  have hWob : W.heap.size ≤ ob := by omega
  clear hob
  have q1 := num_step 1 4294967295 hE hrW s1
  rw [ha] at q1
  go_wp2_with fail
  refine q1.mono ?_
  rintro e w2 ⟨rfl, s2, e2⟩
  have y1 := e2.blk x1 (fun h => by omega)
  have y0 := e2.blk x0 (fun h => hrres h.symm)
  have E2 : Eff (· = r) w w2 := (Eff.of_below hb1).step e2 (fun _ _ h => h)
  clear q1 s1 x0 x1 e2 hb1
  have q1 := num_step 0 15 hE hrW s2
  rw [hb] at q1
  go_wp2_with fail
  refine q1.mono ?_
  rintro e w3 ⟨rfl, s3, e3⟩
  have z1 := e3.blk y1 (fun h => by omega)
  have z0 := e3.blk y0 (fun h => hrres h.symm)
  have E3 := E2.trans e3
  clear q1 s2 y0 y1 e3 E2
  have f0 : w3.cell? ⟨ob, 0, none⟩ = some (.int .i64 0) := z1.cell 0
  have f1 : w3.cell? ⟨ob, 1, none⟩ = some (.int .i64 0) := z1.cell 1
  have hff : ∀ o, w3.frozen? ⟨ob, o, none⟩ = false := z1.frozen
  have e4 : Eff (· = ob) w3 ((w3.setCell ⟨ob, 0, none⟩ (.int .i64 a.1)).setCell ⟨ob, 1, none⟩ (.int .i64 b.1)) := ((Eff.one ob w3).set 0 (.int .i64 a.1)).set 1 (.int .i64 b.1)
  have u1 := (z1.set 0 (.int .i64 a.1)).set 1 (.int .i64 b.1)
  have u0 := e4.blk z0 hres
  have s4 : RdSt ad W ((w3.setCell ⟨ob, 0, none⟩ (.int .i64 a.1)).setCell ⟨ob, 1, none⟩ (.int .i64 b.1)) lo r bs b.2 := ⟨s3.rd.eff e4 (fun k _ h2 h3 => by omega) (fun B cs hB h3 => by have h3 : B = ob := h3; exact hB.type_ne z1 (by decide) h3) hlo, e4.below s3.below s3.below.size (fun i hi h3 => by omega)⟩
  have E4 : Eff (· = r) w ((w3.setCell ⟨ob, 0, none⟩ (.int .i64 a.1)).setCell ⟨ob, 1, none⟩ (.int .i64 b.1)) := E3.step e4 (fun i hi h3 => by omega)
  clear z0 z1 s3 E3 e4
  go_upto_region 3 with (fail)
  generalize (w3.setCell ⟨ob, 0, none⟩ (.int .i64 a.1)).setCell ⟨ob, 1, none⟩ (.int .i64 b.1) = w4 at *
  clear f0 f1 hff
  have q1 := num_step 0 1099511627776 hE hrW s4
  rw [hc] at q1
  go_wp2_with fail
  refine q1.mono ?_
  rintro e w5 ⟨rfl, s5, e5⟩
  have z1 := e5.blk u1 (fun h => by omega)
  have z0 := e5.blk u0 (fun h => hrres h.symm)
  have E5 := E4.trans e5
  clear q1 s4 u0 u1 e5 E4
  have f2 : w5.cell? ⟨ob, 2, none⟩ = some (.int .i64 0) := z1.cell 2
  have hff : ∀ o, w5.frozen? ⟨ob, o, none⟩ = false := z1.frozen
  have e6 : Eff (· = ob) w5 (w5.setCell ⟨ob, 2, none⟩ (.int .i64 c.1)) := (Eff.one ob w5).set 2 (.int .i64 c.1)
  have u1 := z1.set 2 (.int .i64 c.1)
  have u0 := e6.blk z0 hres
  have s6 : RdSt ad W (w5.setCell ⟨ob, 2, none⟩ (.int .i64 c.1)) lo r bs c.2 := ⟨s5.rd.eff e6 (fun k _ h2 h3 => by omega) (fun B cs hB h3 => by have h3 : B = ob := h3; exact hB.type_ne z1 (by decide) h3) hlo, e6.below s5.below s5.below.size (fun i hi h3 => by omega)⟩
  have E6 : Eff (· = r) w (w5.setCell ⟨ob, 2, none⟩ (.int .i64 c.1)) := E5.step e6 (fun i hi h3 => by omega)
  clear z0 z1 s5 E5 e6
  go_upto_region 4 with (fail)
  generalize w5.setCell ⟨ob, 2, none⟩ (.int .i64 c.1) = w6 at *
  clear f2 hff
  have q1 := num_step 0 16 hE hrW s6
  rw [hd] at q1
  go_wp2_with fail
  refine q1.mono ?_
  rintro e w7 ⟨rfl, s7, e7⟩
  have z1 := e7.blk u1 (fun h => by omega)
  have z0 := e7.blk u0 (fun h => hrres h.symm)
  have E7 := E6.trans e7
  clear q1 s6 u0 u1 e7 E6
  obtain ⟨dn, hdn⟩ : ∃ dn : Nat, d.1 = dn := ⟨d.1.toNat, by omega⟩
  have hdn16 : dn ≤ 16 := by omega
  rw [hdn, Int.toNat_natCast] at hX
  rw [hdn]
  clear hdr
  have hw7 : ob < w7.heap.size := z1.lt
  go_wp2_with fail
  go_loopw [19] (fun i wr => MemsRel ad W w7 lo r ob bs a.1 b.1 c.1 d.2 dn i wr) (fun i _ => dn - (intOf i).toNat)
  case atStart => unfold MemsRel; exact ⟨0, .slice none 0 0, Nat.zero_le _, rfl, s7, z1, World.ownsRow_nil _ _ _ _, Eff.refl _ _⟩
  case round =>
  clear s7 z1
  unfold MemsRel at hrel
  obtain ⟨k, v, hk, rfl, s8, hx8, hown8, e8⟩ := hrel
  by_cases hlt : k < dn
  case pos =>
    obtain ⟨x, hx⟩ : ∃ x, numS bs 0 15 (memsR bs k d.2).2 = x := ⟨_, rfl⟩
    have hsl := memsR_len bs k d.2
    have hM1 : memsR bs (k + 1) d.2 = ((memsR bs k d.2).1 ++ [x.1], x.2) := by rw [memsR, hx]
    have s8d : RdSt ad W wr.drew lo r bs (memsR bs k d.2).2 := ⟨s8.rd.on (Below.refl _ _).drew hlo, s8.below.drew⟩
    have q1 := num_step 0 15 hE hrW s8d
    rw [hx] at q1
    have r3 : wr.drew.cell? ⟨ob, 3, none⟩ = some v := hx8.cell 3
    have hl8 : ob < wr.heap.size := hx8.lt
    have HK := hid (And.intro hown8 (And.intro hx8.drew (And.intro e8.drew hM1)))
    have HSL := hid hsl
    have hlt' : (k : Int) < dn := by omega
    clear s8 hx8 hown8 e8 hM1 s8d hsl hx
    generalize memsR bs k d.2 = m at *
    go_wp2_with fail
    refine wp_region_any (by kernel_rfl) ?_
    change wpAny _ _ _ _ _ _ _ (World.drew _)
    refine any_take 0 ?_ rfl (by kernel_rfl) (by kernel_rfl) (by kernel_rfl) (fun _ _ _ h => h) (by rfl) ?_ ?_
    rotate_left
    · (intro w; go_simp; try with_reducible rfl)
    try simp only [Act.put, List.setIfInBounds_toArray, List.set_cons_zero, List.set_cons_succ]
    refine any_take 2 ?_ rfl (by kernel_rfl) (by kernel_rfl) (by kernel_rfl) (fun _ _ _ h => h) (by rfl) ?_ ?_
    rotate_left
    · (intro w; go_simp; try with_reducible rfl)
    try simp only [Act.put, List.setIfInBounds_toArray, List.set_cons_zero, List.set_cons_succ]
    refine any_two 1 3 rfl rfl (by kernel_rfl) (by rfl) (by rfl) ?_ ?_
    · intro K hK
      go_simp
      refine hK _ _ ?_
      clear hK K
      try simp only [Act.put, List.setIfInBounds_toArray, List.set_cons_zero, List.set_cons_succ]
      refine any_one 3 rfl (by kernel_rfl) (by rfl) ?_
      intro K hK
      go_simp
      refine q1.mono ?_
      rintro e w9 ⟨rfl, s9, e9⟩
      have hx9 := e9.blk HK.out.2.1 (fun h => by omega)
      have r3' : w9.cell? ⟨ob, 3, none⟩ = some v := hx9.cell 3
      have hl9 : ob < w9.heap.size := hx9.lt
      have hown9 := e9.row (show wr.drew.ownsRow _ _ _ _ _ _ from HK.out.1) (fun q hq h => by have := (HK.out.1.lt q hq).1; omega)
      have HN := hid (And.intro hown9 (And.intro hx9 (And.intro s9 (HK.out.2.2.1.step e9 (fun i _ h => .inl h)))))
      clear hown9 hx9 s9 e9
      refine hK _ _ ?_
      clear hK K
      try simp only [Act.put, List.setIfInBounds_toArray, List.set_cons_zero, List.set_cons_succ]
      refine any_one 4 rfl (by kernel_rfl) (by rfl) ?_
      intro K hK
      go_simp
      refine hK _ _ ?_
      clear hK K
      try simp only [Act.put, List.setIfInBounds_toArray, List.set_cons_zero, List.set_cons_succ]
      refine any_one 5 rfl (by kernel_rfl) (by rfl) ?_
      intro K hK
      refine wp_append_int2 (.tmp 22) (.tmp 25) rfl rfl HN.out.1 x.1 w9.heap.size rfl rfl rfl (by have := HSL.out; omega) HN.out.2.2.2.size ?_
      intro A10 c10 w10 hown10 he10
      have hx10 := he10.blk HN.out.2.1 (fun h => by have := (HN.out.1.lt _ h).1; omega)
      have r10 : w10.cell? ⟨ob, 3, none⟩ = some v := hx10.cell 3
      have hf10 : ∀ o, w10.frozen? ⟨ob, o, none⟩ = false := hx10.frozen
      have HP := hid (And.intro hown10 (And.intro he10 hx10))
      clear hown10 he10 hx10
      refine hK _ _ ?_
      clear hK K
      try simp only [Act.put, List.setIfInBounds_toArray, List.set_cons_zero, List.set_cons_succ]
      refine any_take 6 ?_ rfl (by kernel_rfl) (by kernel_rfl) (by kernel_rfl) (fun _ _ _ h => h) (by rfl) ?_ ?_
      rotate_left
      · (intro w; go_simp; try with_reducible rfl)
      try simp only [Act.put, List.setIfInBounds_toArray, List.set_cons_zero, List.set_cons_succ]
      refine any_one 7 rfl (by kernel_rfl) (by rfl) ?_
      intro K hK
      go_simp
      refine hK _ _ ?_
      clear hK K
      try simp only [Act.put, List.setIfInBounds_toArray, List.set_cons_zero, List.set_cons_succ]
      refine wpAny_done (by kernel_rfl) ?_ _
      go_wp2_with fail
      go_roundw
      case rel => exact mems_next hlo hobr hw7 hlt hWob HN.out.1 HN.out.2.2.1 HN.out.2.2.2 HK.out.2.2.2 HP.out.1 HP.out.2.1 HP.out.2.2
      case measure => simp [intOf]; omega
    · intro K hK
      go_simp
      refine q1.mono ?_
      rintro e w9 ⟨rfl, s9, e9⟩
      have hx9 := e9.blk HK.out.2.1 (fun h => by omega)
      have r3' : w9.cell? ⟨ob, 3, none⟩ = some v := hx9.cell 3
      have hl9 : ob < w9.heap.size := hx9.lt
      have hown9 := e9.row (show wr.drew.ownsRow _ _ _ _ _ _ from HK.out.1) (fun q hq h => by have := (HK.out.1.lt q hq).1; omega)
      have HN := hid (And.intro hown9 (And.intro hx9 (And.intro s9 (HK.out.2.2.1.step e9 (fun i _ h => .inl h)))))
      clear hown9 hx9 s9 e9
      refine hK _ _ ?_
      clear hK K
      try simp only [Act.put, List.setIfInBounds_toArray, List.set_cons_zero, List.set_cons_succ]
      refine any_two 1 4 rfl rfl (by kernel_rfl) (by rfl) (by rfl) ?_ ?_
      · intro K hK
        go_simp
        refine hK _ _ ?_
        clear hK K
        try simp only [Act.put, List.setIfInBounds_toArray, List.set_cons_zero, List.set_cons_succ]
        refine any_one 4 rfl (by kernel_rfl) (by rfl) ?_
        intro K hK
        go_simp
        refine hK _ _ ?_
        clear hK K
        try simp only [Act.put, List.setIfInBounds_toArray, List.set_cons_zero, List.set_cons_succ]
        refine any_one 5 rfl (by kernel_rfl) (by rfl) ?_
        intro K hK
        refine wp_append_int2 (.tmp 22) (.tmp 25) rfl rfl HN.out.1 x.1 w9.heap.size rfl rfl rfl (by have := HSL.out; omega) HN.out.2.2.2.size ?_
        intro A10 c10 w10 hown10 he10
        have hx10 := he10.blk HN.out.2.1 (fun h => by have := (HN.out.1.lt _ h).1; omega)
        have r10 : w10.cell? ⟨ob, 3, none⟩ = some v := hx10.cell 3
        have hf10 : ∀ o, w10.frozen? ⟨ob, o, none⟩ = false := hx10.frozen
        have HP := hid (And.intro hown10 (And.intro he10 hx10))
        clear hown10 he10 hx10
        refine hK _ _ ?_
        clear hK K
        try simp only [Act.put, List.setIfInBounds_toArray, List.set_cons_zero, List.set_cons_succ]
        refine any_take 6 ?_ rfl (by kernel_rfl) (by kernel_rfl) (by kernel_rfl) (fun _ _ _ h => h) (by rfl) ?_ ?_
        rotate_left
        · (intro w; go_simp; try with_reducible rfl)
        try simp only [Act.put, List.setIfInBounds_toArray, List.set_cons_zero, List.set_cons_succ]
        refine any_one 7 rfl (by kernel_rfl) (by rfl) ?_
        intro K hK
        go_simp
        refine hK _ _ ?_
        clear hK K
        try simp only [Act.put, List.setIfInBounds_toArray, List.set_cons_zero, List.set_cons_succ]
        refine wpAny_done (by kernel_rfl) ?_ _
        go_wp2_with fail
        go_roundw
        case rel => exact mems_next hlo hobr hw7 hlt hWob HN.out.1 HN.out.2.2.1 HN.out.2.2.2 HK.out.2.2.2 HP.out.1 HP.out.2.1 HP.out.2.2
        case measure => simp [intOf]; omega
      · intro K hK
        go_simp
        refine hK _ _ ?_
        clear hK K
        try simp only [Act.put, List.setIfInBounds_toArray, List.set_cons_zero, List.set_cons_succ]
        refine any_one 1 rfl (by kernel_rfl) (by rfl) ?_
        intro K hK
        go_simp
        refine hK _ _ ?_
        clear hK K
        try simp only [Act.put, List.setIfInBounds_toArray, List.set_cons_zero, List.set_cons_succ]
        refine any_one 5 rfl (by kernel_rfl) (by rfl) ?_
        intro K hK
        refine wp_append_int2 (.tmp 22) (.tmp 25) rfl rfl HN.out.1 x.1 w9.heap.size rfl rfl rfl (by have := HSL.out; omega) HN.out.2.2.2.size ?_
        intro A10 c10 w10 hown10 he10
        have hx10 := he10.blk HN.out.2.1 (fun h => by have := (HN.out.1.lt _ h).1; omega)
        have r10 : w10.cell? ⟨ob, 3, none⟩ = some v := hx10.cell 3
        have hf10 : ∀ o, w10.frozen? ⟨ob, o, none⟩ = false := hx10.frozen
        have HP := hid (And.intro hown10 (And.intro he10 hx10))
        clear hown10 he10 hx10
        refine hK _ _ ?_
        clear hK K
        try simp only [Act.put, List.setIfInBounds_toArray, List.set_cons_zero, List.set_cons_succ]
        refine any_take 6 ?_ rfl (by kernel_rfl) (by kernel_rfl) (by kernel_rfl) (fun _ _ _ h => h) (by rfl) ?_ ?_
        rotate_left
        · (intro w; go_simp; try with_reducible rfl)
        try simp only [Act.put, List.setIfInBounds_toArray, List.set_cons_zero, List.set_cons_succ]
        refine any_one 7 rfl (by kernel_rfl) (by rfl) ?_
        intro K hK
        go_simp
        refine hK _ _ ?_
        clear hK K
        try simp only [Act.put, List.setIfInBounds_toArray, List.set_cons_zero, List.set_cons_succ]
        refine wpAny_done (by kernel_rfl) ?_ _
        go_wp2_with fail
        go_roundw
        case rel => exact mems_next hlo hobr hw7 hlt hWob HN.out.1 HN.out.2.2.1 HN.out.2.2.2 HK.out.2.2.2 HP.out.1 HP.out.2.1 HP.out.2.2
        case measure => simp [intOf]; omega
  case neg =>
  obtain rfl : dn = k := by omega
  have hml := memsR_len bs dn d.2
  generalize memsR bs dn d.2 = M at *
  obtain ⟨MA, mc, rfl, _, _, hsm⟩ := Sl.row hown8
  have E8 : Eff (· = r) w wr := E7.step e8 (fun i hi h => by rcases h with h | h <;> omega)
  have u0 := e8.blk z0 (fun h => by rcases h with h | h <;> omega)
  have hMo : ∀ q, (Value.slice MA M.1.length mc).ownBlock = some q → ob < q ∧ q < wr.heap.size := fun q hq => by have := hown8.lt q hq; omega
  obtain ⟨e, he⟩ : ∃ e, numS bs 0 128 M.2 = e := ⟨_, rfl⟩
  have her := numS_range (bs := bs) (s := M.2) (low := 0) (high := 128) (by omega) (by omega)
  rw [he] at her
  obtain ⟨en, hen⟩ : ∃ en : Nat, e.1 = en := ⟨e.1.toNat, by omega⟩
  have hen128 : en ≤ 128 := by omega
  have q1 := num_step 0 128 hE hrW s8
  rw [he] at q1
  simp only [he] at hX
  rw [hen, Int.toNat_natCast] at hX
  have HX := hid hX
  have HML := hid hml
  clear hX hml hown8 s8 e8 z0 E7 her
  go_wp2_with fail
  refine q1.mono ?_
  rintro e' w9 ⟨rfl, s9, e9⟩
  have x9 := e9.blk hx8 (fun h => by omega)
  have E9 := E8.trans e9
  have v0 := e9.blk u0 (fun h => hrres h.symm)
  have hsm9 := hsm.eff e9 (fun q hq h => by have := (hMo q.block (by rw [hq]; rfl)).1; omega)
  rw [hen]
  have hsz9 := e9.size
  clear hx8 E8 e9 u0 hsm q1 he
  have hw9 : ob < w9.heap.size := x9.lt
  have hMw9 : ∀ q, MA = some q → q.block < w9.heap.size ∧ ob < q.block := fun q hq => by
    have h1 := hMo q.block (by rw [hq]; rfl)
    have h2 := hsz9
    omega
  go_upto_block 2 with (fail)
  go_cut [] (fun wx => RingFin ad W w9 lo r ob bs a.1 b.1 c.1 (.slice MA M.1.length mc) (entsR bs dn en e.2) wx)
  case first =>
    go_wp2_with fail
    go_loopw [5] (fun i wr => EntsRelR ad W w9 lo r ob bs a.1 b.1 c.1 (.slice MA M.1.length mc) dn e.2 en i wr) (fun i _ => (intOf i).toNat)
    case atStart => unfold EntsRelR; exact ⟨0, .slice none 0 0, [], Nat.zero_le _, rfl, rfl, s9, x9, EntS.nil _ _, (fun _ h => by cases h), Eff.refl _ _⟩
    case round =>
    clear s9 x9
    unfold EntsRelR at hrel
    obtain ⟨k, v, es, hk, rfl, hes, s10, hx10, hS, hb16, e10⟩ := hrel
    have hstuck : (entsR bs dn k e.2).2.2 ≠ none → entsR bs dn en e.2 = entsR bs dn k e.2 := fun h => entsR_stuck h en hk
    have hnext : (entsR bs dn k e.2).2.2 = none → entsR bs dn (k + 1) e.2 = ((entsR bs dn k e.2).1 ++ [(entR bs dn (entsR bs dn k e.2).2).1], (entR bs dn (entsR bs dn k e.2).2).2) := fun h => by rw [entsR, if_pos h]
    have hesl : es.length ≤ 128 := by
      have := entsR_len bs dn k e.2
      rw [hes, List.length_map] at this
      omega
    obtain ⟨m, hm⟩ : ∃ m, en - k = m := ⟨_, rfl⟩
    rw [hm]
    by_cases h0 : m = 0
    case pos =>
      obtain rfl : en = k := by omega
      subst h0
      have HF := hid (And.intro hes (And.intro s10 (And.intro hx10 (And.intro hS (And.intro hb16 (And.intro hesl e10))))))
      clear hes s10 hx10 hS hb16 hesl e10 hstuck hnext
      go_wp2_with fail
      go_meet
      unfold RingFin
      exact ⟨v, es, HF.out⟩
    case neg =>
    have hm0 : (0 : Int) < m := by omega
    obtain ⟨ev, hR, hErr⟩ := s10.rd
    have hq := errOf_any wr hR
    generalize hX : entsR bs dn k e.2 = X at *
    obtain ⟨xs, p, o⟩ := X
    cases o with
    | some eo =>
      obtain ⟨eoc, eop⟩ := eo
      obtain ⟨B, rfl, _, _⟩ := hErr
      have hst := hstuck (by simp)
      have HF := hid (And.intro hes (And.intro s10 (And.intro hx10 (And.intro hS (And.intro hb16 (And.intro hesl e10))))))
      have HST := hid hst
      clear hes s10 hx10 hS hb16 hesl e10 hstuck hnext hst hX
      go_wp2_with fail
      refine hq.mono ?_
      rintro e' w' ⟨rfl, rfl⟩
      go_wp2_with fail
      go_meet
      unfold RingFin
      rw [HST.out]
      exact ⟨v, es, HF.out⟩
    | none =>
    have hErr : ev = .nilIface := hErr
    subst hErr
    have hnx := hnext rfl
    clear hstuck hnext hX hR
    simp only at hes hnx s10
    obtain ⟨fl, hfl⟩ : ∃ fl, numS bs 0 63 (p, none) = fl := ⟨_, rfl⟩
    obtain ⟨di, hdi⟩ : ∃ di, numS bs (-1) 1 fl.2 = di := ⟨_, rfl⟩
    obtain ⟨ge, hge⟩ : ∃ ge, numS bs 1 2147483647 di.2 = ge := ⟨_, rfl⟩
    obtain ⟨aw, haw⟩ : ∃ aw, numS bs (-1) 15 ge.2 = aw := ⟨_, rfl⟩
    obtain ⟨nb, hnb⟩ : ∃ nb, numS bs 0 dn aw.2 = nb := ⟨_, rfl⟩
    have hnbr := numS_range (bs := bs) (s := aw.2) (low := 0) (high := dn) (by omega) (by omega)
    rw [hnb] at hnbr
    obtain ⟨nbn, hnbn⟩ : ∃ nbn : Nat, nb.1 = nbn := ⟨nb.1.toNat, by omega⟩
    have hnb16 : nbn ≤ 16 := by omega
    have hent : entR bs dn (p, none) = ((fl.1, di.1, ge.1, aw.1, (bidsR bs nbn nb.2).1), (bidsR bs nbn nb.2).2) := by
      unfold entR
      simp only [hfl, hdi, hge, haw, hnb, hnbn, Int.toNat_natCast]
    rw [hent] at hnx
    clear hent
    go_wp2_with fail
    refine hq.mono ?_
    rintro e' w' ⟨rfl, rfl⟩
    go_upto_region 13 with (fail)
    have hb11 : Below wr.heap.size wr (wr.alloc (.cells #[.int .i64 0, .int .i64 0, .int .i64 0, .slice none 0 0, .int .i64 0] 62)) := (Below.refl _ _).alloc (Nat.le_refl _) _
    have x11 : Blk (wr.alloc (.cells #[.int .i64 0, .int .i64 0, .int .i64 0, .slice none 0 0, .int .i64 0] 62)) wr.heap.size [.int .i64 0, .int .i64 0, .int .i64 0, .slice none 0 0, .int .i64 0] 62 := Blk.new wr _ _
    have s11 : RdSt ad W (wr.alloc (.cells #[.int .i64 0, .int .i64 0, .int .i64 0, .slice none 0 0, .int .i64 0] 62)) lo r bs (p, none) := ⟨s10.rd.on hb11 hlo, s10.below.trans (hb11.mono s10.below.size)⟩
    have hx11 := (Eff.of_below (S := fun _ => False) hb11).blk hx10 (fun h => h)
    have hS11 := hS.eff (Eff.of_below (S := fun _ => False) hb11) (fun _ _ h => h)
    have e11 : Eff (fun q => q = r ∨ q = ob) w9 (wr.alloc (.cells #[.int .i64 0, .int .i64 0, .int .i64 0, .slice none 0 0, .int .i64 0] 62)) := e10.alloc _
    have hvl : ∀ q, v.ownBlock = some q → w9.heap.size ≤ q ∧ q < wr.heap.size := hS.row.lt
    have hobe : ob < wr.heap.size := hx10.lt
    have hw9e : w9.heap.size ≤ wr.heap.size := e10.size
    have h0 : Eff (fun q => q = r) wr (wr.alloc (.cells #[.int .i64 0, .int .i64 0, .int .i64 0, .slice none 0 0, .int .i64 0] 62)) := Eff.of_below hb11
    have HS0 := hid (And.intro hS (And.intro hx10 (And.intro e10 h0)))
    clear hS hx10 e10 s10 hb11 hq h0
    generalize wr.alloc (.cells #[.int .i64 0, .int .i64 0, .int .i64 0, .slice none 0 0, .int .i64 0] 62) = w11 at *
    obtain ⟨eb, heb⟩ : ∃ eb, eb = wr.heap.size := ⟨_, rfl⟩
    have HEB := hid heb
    rw [← heb] at x11 hvl hobe hw9e ⊢
    clear heb
    have hebr : r ≠ eb := by omega
    have hebr2 : r < eb := by omega
    have hWeb : W.heap.size ≤ eb := by omega
    have E11 : Eff (fun q => q = r ∨ q = eb) w11 w11 := Eff.refl _ _
    have HB := hid (And.intro hes (And.intro hnx (And.intro hb16 (And.intro hx11 (And.intro hS11 (And.intro e11 (And.intro hvl hesl)))))))
    clear hes hnx hb16 hx11 hS11 e11 hvl hesl
    have hebw : eb < w11.heap.size := x11.lt
    --ENTRY<
    have q1 := num_step 0 63 hE hrW s11
    rw [hfl] at q1
    go_wp2_with fail
    refine q1.mono ?_
    rintro e' w12 ⟨rfl, s12, t12⟩
    have x12 := t12.blk x11 (fun h => hebr h.symm)
    have f0 : w12.cell? ⟨eb, 0, none⟩ = some (.int .i64 0) := x12.cell 0
    have hff : ∀ o, w12.frozen? ⟨eb, o, none⟩ = false := x12.frozen
    have t13 : Eff (· = eb) w12 (w12.setCell ⟨eb, 0, none⟩ (.int .i64 fl.1)) := (Eff.one eb w12).set 0 _
    have x13 := x12.set 0 (.int .i64 fl.1)
    have s13 : RdSt ad W (w12.setCell ⟨eb, 0, none⟩ (.int .i64 fl.1)) lo r bs fl.2 := s12.set hlo hebr2 hWeb (by decide) x12 t13
    have E13 : Eff (fun q => q = r ∨ q = eb) w11 (w12.setCell ⟨eb, 0, none⟩ (.int .i64 fl.1)) := (E11.step t12 (fun i _ h => .inl h)).step t13 (fun i _ h => .inr h)
    clear q1 s11 x11 t12 E11 s12 x12 t13
    go_upto_region 14 with (fail)
    generalize w12.setCell ⟨eb, 0, none⟩ (.int .i64 fl.1) = w13 at *
    clear f0 hff
    have q1 := num_step (-1) 1 hE hrW s13
    rw [hdi] at q1
    go_wp2_with fail
    refine q1.mono ?_
    rintro e' w14 ⟨rfl, s14, t14⟩
    have x14 := t14.blk x13 (fun h => hebr h.symm)
    have f1 : w14.cell? ⟨eb, 1, none⟩ = some (.int .i64 0) := x14.cell 1
    have hff : ∀ o, w14.frozen? ⟨eb, o, none⟩ = false := x14.frozen
    have t15 : Eff (· = eb) w14 (w14.setCell ⟨eb, 1, none⟩ (.int .i64 di.1)) := (Eff.one eb w14).set 1 _
    have x15 := x14.set 1 (.int .i64 di.1)
    have s15 : RdSt ad W (w14.setCell ⟨eb, 1, none⟩ (.int .i64 di.1)) lo r bs di.2 := s14.set hlo hebr2 hWeb (by decide) x14 t15
    have E15 : Eff (fun q => q = r ∨ q = eb) w11 (w14.setCell ⟨eb, 1, none⟩ (.int .i64 di.1)) := (E13.step t14 (fun i _ h => .inl h)).step t15 (fun i _ h => .inr h)
    clear q1 s13 x13 t14 E13 s14 x14 t15
    go_upto_region 15 with (fail)
    generalize w14.setCell ⟨eb, 1, none⟩ (.int .i64 di.1) = w15 at *
    clear f1 hff
    have q1 := num_step 1 2147483647 hE hrW s15
    rw [hge] at q1
    go_wp2_with fail
    refine q1.mono ?_
    rintro e' w16 ⟨rfl, s16, t16⟩
    have x16 := t16.blk x15 (fun h => hebr h.symm)
    have f2 : w16.cell? ⟨eb, 2, none⟩ = some (.int .i64 0) := x16.cell 2
    have hff : ∀ o, w16.frozen? ⟨eb, o, none⟩ = false := x16.frozen
    have t17 : Eff (· = eb) w16 (w16.setCell ⟨eb, 2, none⟩ (.int .i64 ge.1)) := (Eff.one eb w16).set 2 _
    have x17 := x16.set 2 (.int .i64 ge.1)
    have s17 : RdSt ad W (w16.setCell ⟨eb, 2, none⟩ (.int .i64 ge.1)) lo r bs ge.2 := s16.set hlo hebr2 hWeb (by decide) x16 t17
    have E17 : Eff (fun q => q = r ∨ q = eb) w11 (w16.setCell ⟨eb, 2, none⟩ (.int .i64 ge.1)) := (E15.step t16 (fun i _ h => .inl h)).step t17 (fun i _ h => .inr h)
    clear q1 s15 x15 t16 E15 s16 x16 t17
    go_upto_region 16 with (fail)
    generalize w16.setCell ⟨eb, 2, none⟩ (.int .i64 ge.1) = w17 at *
    clear f2 hff
    have q1 := num_step (-1) 15 hE hrW s17
    rw [haw] at q1
    go_wp2_with fail
    refine q1.mono ?_
    rintro e' w18 ⟨rfl, s18, t18⟩
    have x18 := t18.blk x17 (fun h => hebr h.symm)
    have f4 : w18.cell? ⟨eb, 4, none⟩ = some (.int .i64 0) := x18.cell 4
    have hff : ∀ o, w18.frozen? ⟨eb, o, none⟩ = false := x18.frozen
    have t19 : Eff (· = eb) w18 (w18.setCell ⟨eb, 4, none⟩ (.int .i64 aw.1)) := (Eff.one eb w18).set 4 _
    have x19 := x18.set 4 (.int .i64 aw.1)
    have s19 : RdSt ad W (w18.setCell ⟨eb, 4, none⟩ (.int .i64 aw.1)) lo r bs aw.2 := s18.set hlo hebr2 hWeb (by decide) x18 t19
    have E19 : Eff (fun q => q = r ∨ q = eb) w11 (w18.setCell ⟨eb, 4, none⟩ (.int .i64 aw.1)) := (E17.step t18 (fun i _ h => .inl h)).step t19 (fun i _ h => .inr h)
    clear q1 s17 x17 t18 E17 s18 x18 t19
    go_upto_region 17 with (fail)
    generalize w18.setCell ⟨eb, 4, none⟩ (.int .i64 aw.1) = w19 at *
    clear f4 hff
    --ENTRY>
    have q1 := num_step 0 dn hE hrW s19
    rw [hnb] at q1
    go_wp2_with fail
    refine q1.mono ?_
    rintro e' w20 ⟨rfl, s20, t20⟩
    have x20 := t20.blk x19 (fun h => hebr h.symm)
    have E20 := E19.step t20 (fun i _ h => .inl h)
    rw [hnbn]
    have heb20 : eb < w20.heap.size := x20.lt
    clear q1 s19 x19 t20 E19 hnbr
    go_wp2_with fail
    go_loopw [60] (fun i wr => BidsRelR ad W w20 lo r eb bs fl.1 di.1 ge.1 aw.1 nb.2 nbn i wr) (fun i _ => nbn - (intOf i).toNat)
    case atStart => unfold BidsRelR; exact ⟨0, .slice none 0 0, Nat.zero_le _, rfl, s20, x20, World.ownsRow_nil _ _ _ _, Eff.refl _ _⟩
    case round =>
    clear s20 x20
    unfold BidsRelR at hrel
    obtain ⟨j, u, hj, rfl, s21, x21, hown21, e21⟩ := hrel
    by_cases hjl : j < nbn
    case pos =>
      obtain ⟨x, hx⟩ : ∃ x, numS bs 0 15 (bidsR bs j nb.2).2 = x := ⟨_, rfl⟩
      obtain ⟨y, hy⟩ : ∃ y, numS bs 0 1048576 x.2 = y := ⟨_, rfl⟩
      have hsl := bidsR_len bs j nb.2
      have hM1 : bidsR bs (j + 1) nb.2 = ((bidsR bs j nb.2).1 ++ [(x.1, y.1)], y.2) := by rw [bidsR, bidR, hx, hy]
      have s21d : RdSt ad W wr.drew lo r bs (bidsR bs j nb.2).2 := ⟨s21.rd.on (Below.refl _ _).drew hlo, s21.below.drew⟩
      have q1 := num_step 0 15 hE hrW s21d
      rw [hx] at q1
      have r3 : wr.drew.cell? ⟨eb, 3, none⟩ = some u := x21.cell 3
      have hl8 : eb < wr.heap.size := x21.lt
      have HK := hid (And.intro hown21 (And.intro x21.drew (And.intro e21.drew hM1)))
      have HSL := hid hsl
      have hjl' : (j : Int) < nbn := by omega
      clear s21 x21 hown21 e21 hM1 s21d hsl hx
      generalize bidsR bs j nb.2 = mm at *
      go_wp2_with fail
      refine wp_region_any (by kernel_rfl) ?_
      change wpAny _ _ _ _ _ _ _ (World.drew _)
      refine any_take 0 ?_ rfl (by kernel_rfl) (by kernel_rfl) (by kernel_rfl) (fun _ _ _ h => h) (by rfl) ?_ ?_
      rotate_left
      · (intro w; go_simp; try with_reducible rfl)
      try simp only [Act.put, List.setIfInBounds_toArray, List.set_cons_zero, List.set_cons_succ]
      refine any_take 2 ?_ rfl (by kernel_rfl) (by kernel_rfl) (by kernel_rfl) (fun _ _ _ h => h) (by rfl) ?_ ?_
      rotate_left
      · (intro w; go_simp; try with_reducible rfl)
      try simp only [Act.put, List.setIfInBounds_toArray, List.set_cons_zero, List.set_cons_succ]
      refine any_take 4 ?_ rfl (by kernel_rfl) (by kernel_rfl) (by kernel_rfl) (fun _ _ _ h => h) (by rfl) ?_ ?_
      rotate_left
      · (intro w; go_simp; try with_reducible rfl)
      try simp only [Act.put, List.setIfInBounds_toArray, List.set_cons_zero, List.set_cons_succ]
      refine any_two 1 3 rfl rfl (by kernel_rfl) (by rfl) (by rfl) ?_ ?_
      · intro K hK
        go_simp
        refine hK _ _ ?_
        clear hK K
        try simp only [Act.put, List.setIfInBounds_toArray, List.set_cons_zero, List.set_cons_succ]
        refine any_one 3 rfl (by kernel_rfl) (by rfl) ?_
        intro K hK
        go_simp
        refine q1.mono ?_
        rintro e' w22 ⟨rfl, s22, t22⟩
        have x22 := t22.blk HK.out.2.1 (fun h => hebr h.symm)
        have r3' : w22.cell? ⟨eb, 3, none⟩ = some u := x22.cell 3
        have hl9 : eb < w22.heap.size := x22.lt
        have hown22 := t22.row (show wr.drew.ownsRow _ _ _ _ _ _ from HK.out.1) (fun q hq h => by have := (HK.out.1.lt q hq).1; omega)
        have E22 := HK.out.2.2.1.step t22 (fun i _ h => Or.inl h)
        have q2 := num_step 0 1048576 hE hrW s22
        rw [hy] at q2
        clear s22 t22
        refine hK _ _ ?_
        clear hK K
        try simp only [Act.put, List.setIfInBounds_toArray, List.set_cons_zero, List.set_cons_succ]
        refine any_one 5 rfl (by kernel_rfl) (by rfl) ?_
        intro K hK
        go_simp
        refine q2.mono ?_
        rintro e' w23 ⟨rfl, s23, t23⟩
        have x23 := t23.blk x22 (fun h => hebr h.symm)
        have r3'' : w23.cell? ⟨eb, 3, none⟩ = some u := x23.cell 3
        have hl9' : eb < w23.heap.size := x23.lt
        have hown23 := t23.row hown22 (fun q hq h => by have := (HK.out.1.lt q hq).1; omega)
        have HN := hid (And.intro hown23 (And.intro x23 (And.intro s23 (E22.step t23 (fun i _ h => Or.inl h)))))
        clear hown23 x23 s23 t23 hown22 x22 E22
        refine hK _ _ ?_
        clear hK K
        try simp only [Act.put, List.setIfInBounds_toArray, List.set_cons_zero, List.set_cons_succ]
        refine any_take 6 ?_ rfl (by kernel_rfl) (by kernel_rfl) (by kernel_rfl) (fun _ _ _ h => h) (by rfl) ?_ ?_
        rotate_left
        · (intro w; go_simp; try with_reducible rfl)
        try simp only [Act.put, List.setIfInBounds_toArray, List.set_cons_zero, List.set_cons_succ]
        refine any_one 7 rfl (by kernel_rfl) (by rfl) ?_
        intro K hK
        go_simp
        refine hK _ _ ?_
        clear hK K
        try simp only [Act.put, List.setIfInBounds_toArray, List.set_cons_zero, List.set_cons_succ]
        refine any_one 8 rfl (by kernel_rfl) (by rfl) ?_
        intro K hK
        refine wp_append_bid (.tmp 63) (.tmp 69) rfl rfl HN.out.1 (x.1, y.1) w23.heap.size rfl rfl rfl (by have := HSL.out; omega) HN.out.2.2.2.size ?_
        intro A10 c10 w24 hown24 he24
        have hx24 := he24.blk HN.out.2.1 (fun h => by have := (HN.out.1.lt _ h).1; omega)
        have r24 : w24.cell? ⟨eb, 3, none⟩ = some u := hx24.cell 3
        have hf24 : ∀ o, w24.frozen? ⟨eb, o, none⟩ = false := hx24.frozen
        have HP := hid (And.intro hown24 (And.intro he24 hx24))
        clear hown24 he24 hx24
        refine hK _ _ ?_
        clear hK K
        try simp only [Act.put, List.setIfInBounds_toArray, List.set_cons_zero, List.set_cons_succ]
        refine any_take 9 ?_ rfl (by kernel_rfl) (by kernel_rfl) (by kernel_rfl) (fun _ _ _ h => h) (by rfl) ?_ ?_
        rotate_left
        · (intro w; go_simp; try with_reducible rfl)
        try simp only [Act.put, List.setIfInBounds_toArray, List.set_cons_zero, List.set_cons_succ]
        refine any_one 10 rfl (by kernel_rfl) (by rfl) ?_
        intro K hK
        go_simp
        refine hK _ _ ?_
        clear hK K
        try simp only [Act.put, List.setIfInBounds_toArray, List.set_cons_zero, List.set_cons_succ]
        refine wpAny_done (by kernel_rfl) ?_ _
        go_wp2_with fail
        go_roundw
        case rel => exact bidsR_next hlo hebr2 heb20 hjl hWeb HN.out.1 HN.out.2.2.1 HN.out.2.2.2 HK.out.2.2.2 HP.out.1 HP.out.2.1 HP.out.2.2
        case measure => simp [intOf]; omega
      · intro K hK
        go_simp
        refine q1.mono ?_
        rintro e' w22 ⟨rfl, s22, t22⟩
        have x22 := t22.blk HK.out.2.1 (fun h => hebr h.symm)
        have r3' : w22.cell? ⟨eb, 3, none⟩ = some u := x22.cell 3
        have hl9 : eb < w22.heap.size := x22.lt
        have hown22 := t22.row (show wr.drew.ownsRow _ _ _ _ _ _ from HK.out.1) (fun q hq h => by have := (HK.out.1.lt q hq).1; omega)
        have E22 := HK.out.2.2.1.step t22 (fun i _ h => Or.inl h)
        have q2 := num_step 0 1048576 hE hrW s22
        rw [hy] at q2
        clear s22 t22
        refine hK _ _ ?_
        clear hK K
        try simp only [Act.put, List.setIfInBounds_toArray, List.set_cons_zero, List.set_cons_succ]
        refine any_two 1 5 rfl rfl (by kernel_rfl) (by rfl) (by rfl) ?_ ?_
        · intro K hK
          go_simp
          refine hK _ _ ?_
          clear hK K
          try simp only [Act.put, List.setIfInBounds_toArray, List.set_cons_zero, List.set_cons_succ]
          refine any_one 5 rfl (by kernel_rfl) (by rfl) ?_
          intro K hK
          go_simp
          refine q2.mono ?_
          rintro e' w23 ⟨rfl, s23, t23⟩
          have x23 := t23.blk x22 (fun h => hebr h.symm)
          have r3'' : w23.cell? ⟨eb, 3, none⟩ = some u := x23.cell 3
          have hl9' : eb < w23.heap.size := x23.lt
          have hown23 := t23.row hown22 (fun q hq h => by have := (HK.out.1.lt q hq).1; omega)
          have HN := hid (And.intro hown23 (And.intro x23 (And.intro s23 (E22.step t23 (fun i _ h => Or.inl h)))))
          clear hown23 x23 s23 t23 hown22 x22 E22
          refine hK _ _ ?_
          clear hK K
          try simp only [Act.put, List.setIfInBounds_toArray, List.set_cons_zero, List.set_cons_succ]
          refine any_take 6 ?_ rfl (by kernel_rfl) (by kernel_rfl) (by kernel_rfl) (fun _ _ _ h => h) (by rfl) ?_ ?_
          rotate_left
          · (intro w; go_simp; try with_reducible rfl)
          try simp only [Act.put, List.setIfInBounds_toArray, List.set_cons_zero, List.set_cons_succ]
          refine any_one 7 rfl (by kernel_rfl) (by rfl) ?_
          intro K hK
          go_simp
          refine hK _ _ ?_
          clear hK K
          try simp only [Act.put, List.setIfInBounds_toArray, List.set_cons_zero, List.set_cons_succ]
          refine any_one 8 rfl (by kernel_rfl) (by rfl) ?_
          intro K hK
          refine wp_append_bid (.tmp 63) (.tmp 69) rfl rfl HN.out.1 (x.1, y.1) w23.heap.size rfl rfl rfl (by have := HSL.out; omega) HN.out.2.2.2.size ?_
          intro A10 c10 w24 hown24 he24
          have hx24 := he24.blk HN.out.2.1 (fun h => by have := (HN.out.1.lt _ h).1; omega)
          have r24 : w24.cell? ⟨eb, 3, none⟩ = some u := hx24.cell 3
          have hf24 : ∀ o, w24.frozen? ⟨eb, o, none⟩ = false := hx24.frozen
          have HP := hid (And.intro hown24 (And.intro he24 hx24))
          clear hown24 he24 hx24
          refine hK _ _ ?_
          clear hK K
          try simp only [Act.put, List.setIfInBounds_toArray, List.set_cons_zero, List.set_cons_succ]
          refine any_take 9 ?_ rfl (by kernel_rfl) (by kernel_rfl) (by kernel_rfl) (fun _ _ _ h => h) (by rfl) ?_ ?_
          rotate_left
          · (intro w; go_simp; try with_reducible rfl)
          try simp only [Act.put, List.setIfInBounds_toArray, List.set_cons_zero, List.set_cons_succ]
          refine any_one 10 rfl (by kernel_rfl) (by rfl) ?_
          intro K hK
          go_simp
          refine hK _ _ ?_
          clear hK K
          try simp only [Act.put, List.setIfInBounds_toArray, List.set_cons_zero, List.set_cons_succ]
          refine wpAny_done (by kernel_rfl) ?_ _
          go_wp2_with fail
          go_roundw
          case rel => exact bidsR_next hlo hebr2 heb20 hjl hWeb HN.out.1 HN.out.2.2.1 HN.out.2.2.2 HK.out.2.2.2 HP.out.1 HP.out.2.1 HP.out.2.2
          case measure => simp [intOf]; omega
        · intro K hK
          go_simp
          refine q2.mono ?_
          rintro e' w23 ⟨rfl, s23, t23⟩
          have x23 := t23.blk x22 (fun h => hebr h.symm)
          have r3'' : w23.cell? ⟨eb, 3, none⟩ = some u := x23.cell 3
          have hl9' : eb < w23.heap.size := x23.lt
          have hown23 := t23.row hown22 (fun q hq h => by have := (HK.out.1.lt q hq).1; omega)
          have HN := hid (And.intro hown23 (And.intro x23 (And.intro s23 (E22.step t23 (fun i _ h => Or.inl h)))))
          clear hown23 x23 s23 t23 hown22 x22 E22
          refine hK _ _ ?_
          clear hK K
          try simp only [Act.put, List.setIfInBounds_toArray, List.set_cons_zero, List.set_cons_succ]
          refine any_take 6 ?_ rfl (by kernel_rfl) (by kernel_rfl) (by kernel_rfl) (fun _ _ _ h => h) (by rfl) ?_ ?_
          rotate_left
          · (intro w; go_simp; try with_reducible rfl)
          try simp only [Act.put, List.setIfInBounds_toArray, List.set_cons_zero, List.set_cons_succ]
          refine any_two 1 7 rfl rfl (by kernel_rfl) (by rfl) (by rfl) ?_ ?_
          · intro K hK
            go_simp
            refine hK _ _ ?_
            clear hK K
            try simp only [Act.put, List.setIfInBounds_toArray, List.set_cons_zero, List.set_cons_succ]
            refine any_one 7 rfl (by kernel_rfl) (by rfl) ?_
            intro K hK
            go_simp
            refine hK _ _ ?_
            clear hK K
            try simp only [Act.put, List.setIfInBounds_toArray, List.set_cons_zero, List.set_cons_succ]
            refine any_one 8 rfl (by kernel_rfl) (by rfl) ?_
            intro K hK
            refine wp_append_bid (.tmp 63) (.tmp 69) rfl rfl HN.out.1 (x.1, y.1) w23.heap.size rfl rfl rfl (by have := HSL.out; omega) HN.out.2.2.2.size ?_
            intro A10 c10 w24 hown24 he24
            have hx24 := he24.blk HN.out.2.1 (fun h => by have := (HN.out.1.lt _ h).1; omega)
            have r24 : w24.cell? ⟨eb, 3, none⟩ = some u := hx24.cell 3
            have hf24 : ∀ o, w24.frozen? ⟨eb, o, none⟩ = false := hx24.frozen
            have HP := hid (And.intro hown24 (And.intro he24 hx24))
            clear hown24 he24 hx24
            refine hK _ _ ?_
            clear hK K
            try simp only [Act.put, List.setIfInBounds_toArray, List.set_cons_zero, List.set_cons_succ]
            refine any_take 9 ?_ rfl (by kernel_rfl) (by kernel_rfl) (by kernel_rfl) (fun _ _ _ h => h) (by rfl) ?_ ?_
            rotate_left
            · (intro w; go_simp; try with_reducible rfl)
            try simp only [Act.put, List.setIfInBounds_toArray, List.set_cons_zero, List.set_cons_succ]
            refine any_one 10 rfl (by kernel_rfl) (by rfl) ?_
            intro K hK
            go_simp
            refine hK _ _ ?_
            clear hK K
            try simp only [Act.put, List.setIfInBounds_toArray, List.set_cons_zero, List.set_cons_succ]
            refine wpAny_done (by kernel_rfl) ?_ _
            go_wp2_with fail
            go_roundw
            case rel => exact bidsR_next hlo hebr2 heb20 hjl hWeb HN.out.1 HN.out.2.2.1 HN.out.2.2.2 HK.out.2.2.2 HP.out.1 HP.out.2.1 HP.out.2.2
            case measure => simp [intOf]; omega
          · intro K hK
            go_simp
            refine hK _ _ ?_
            clear hK K
            try simp only [Act.put, List.setIfInBounds_toArray, List.set_cons_zero, List.set_cons_succ]
            refine any_one 1 rfl (by kernel_rfl) (by rfl) ?_
            intro K hK
            go_simp
            refine hK _ _ ?_
            clear hK K
            try simp only [Act.put, List.setIfInBounds_toArray, List.set_cons_zero, List.set_cons_succ]
            refine any_one 8 rfl (by kernel_rfl) (by rfl) ?_
            intro K hK
            refine wp_append_bid (.tmp 63) (.tmp 69) rfl rfl HN.out.1 (x.1, y.1) w23.heap.size rfl rfl rfl (by have := HSL.out; omega) HN.out.2.2.2.size ?_
            intro A10 c10 w24 hown24 he24
            have hx24 := he24.blk HN.out.2.1 (fun h => by have := (HN.out.1.lt _ h).1; omega)
            have r24 : w24.cell? ⟨eb, 3, none⟩ = some u := hx24.cell 3
            have hf24 : ∀ o, w24.frozen? ⟨eb, o, none⟩ = false := hx24.frozen
            have HP := hid (And.intro hown24 (And.intro he24 hx24))
            clear hown24 he24 hx24
            refine hK _ _ ?_
            clear hK K
            try simp only [Act.put, List.setIfInBounds_toArray, List.set_cons_zero, List.set_cons_succ]
            refine any_take 9 ?_ rfl (by kernel_rfl) (by kernel_rfl) (by kernel_rfl) (fun _ _ _ h => h) (by rfl) ?_ ?_
            rotate_left
            · (intro w; go_simp; try with_reducible rfl)
            try simp only [Act.put, List.setIfInBounds_toArray, List.set_cons_zero, List.set_cons_succ]
            refine any_one 10 rfl (by kernel_rfl) (by rfl) ?_
            intro K hK
            go_simp
            refine hK _ _ ?_
            clear hK K
            try simp only [Act.put, List.setIfInBounds_toArray, List.set_cons_zero, List.set_cons_succ]
            refine wpAny_done (by kernel_rfl) ?_ _
            go_wp2_with fail
            go_roundw
            case rel => exact bidsR_next hlo hebr2 heb20 hjl hWeb HN.out.1 HN.out.2.2.1 HN.out.2.2.2 HK.out.2.2.2 HP.out.1 HP.out.2.1 HP.out.2.2
            case measure => simp [intOf]; omega
    case neg =>
    obtain rfl : nbn = j := by omega
    have hbl := bidsR_len bs nbn nb.2
    generalize bidsR bs nbn nb.2 = X at *
    obtain ⟨xs, sf⟩ := X
    simp only at hbl s21 hown21 HB
    subst hbl
    obtain ⟨bA, bc, rfl, _, _, hsb⟩ := Sl.row hown21
    obtain ⟨hS0, hx0, e0, h0⟩ := HS0.out
    have EALL := E20.trans e21
    have eN : Eff (fun q => q = r) _ wr := h0.step EALL (fun i hi h => by
      rcases h with h | h
      · exact h
      · have := HEB.out; omega)
    have hSN := hS0.eff eN (fun q hq h => by omega)
    have hxN := eN.blk hx0 (fun h => by omega)
    have eNN := e0.step eN (fun i _ h => .inl h)
    have hoff : ∀ q, bA = some q → w9.heap.size ≤ q.block ∧ q.block < wr.heap.size ∧ v.ownBlock ≠ some q.block := fun q hq => by
      have h1 := hown21.lt q.block (by rw [hq]; rfl)
      have h2 := HB.out.2.2.2.2.2.2.1
      refine ⟨by omega, h1.2, fun h => ?_⟩
      have := (h2 _ h).2
      omega
    have g0 : wr.cell? ⟨eb, 0, none⟩ = some (.int .i64 fl.1) := x21.cell 0
    have g1 : wr.cell? ⟨eb, 1, none⟩ = some (.int .i64 di.1) := x21.cell 1
    have g2 : wr.cell? ⟨eb, 2, none⟩ = some (.int .i64 ge.1) := x21.cell 2
    have g3 : wr.cell? ⟨eb, 3, none⟩ = some (.slice bA xs.length bc) := x21.cell 3
    have g4 : wr.cell? ⟨eb, 4, none⟩ = some (.int .i64 aw.1) := x21.cell 4
    have k4 : wr.cell? ⟨ob, 4, none⟩ = some v := hxN.cell 4
    have hwN : w9.heap.size ≤ wr.heap.size := eNN.size
    have hesl := HB.out.2.2.2.2.2.2.2
    have HZ := hid (And.intro hSN (And.intro hxN (And.intro eNN (And.intro hoff (And.intro hsb s21)))))
    clear hSN hxN eNN hoff hsb s21 eN EALL hS0 hx0 e0 h0 x21 hown21 e21
    have hesl' : es.length ≤ 100000 := by omega
    go_wp2_with (at_builtin; refine wpList_append_ent rfl _ _ rfl rfl HZ.out.1 ⟨fl.1, di.1, ge.1, aw.1, xs, bA, bc⟩ wr.heap.size rfl rfl rfl hesl' hwN HZ.out.2.2.2.2.1 HZ.out.2.2.2.1 ?_; intro A30 c30 w30 hS30 he30; have hx30 := he30.blk HZ.out.2.1 (fun h => by have := (HZ.out.1.row.lt _ h).1; omega); have hf30 : ∀ o, w30.frozen? ⟨ob, o, none⟩ = false := hx30.frozen; have hg30 : w30.cell? ⟨ob, 4, none⟩ = some v := hx30.cell 4; have HY := hid (And.intro hS30 (And.intro he30 hx30)); clear hS30 he30 hx30)
    go_roundw
    case rel =>
      unfold EntsRelR
      obtain ⟨hSN, hxN, eNN, hoff, hsb, s21⟩ := HZ.out
      obtain ⟨hS30, he30, hx30⟩ := HY.out
      have hown : ∀ q, v.ownBlock = some q → w9.heap.size ≤ q := fun q hq => (hSN.row.lt q hq).1
      have e31 : Eff (· = ob) w30 (w30.setCell ⟨ob, 4, none⟩ (.slice A30 (es.length + 1) c30)) := (Eff.one ob w30).set 4 _
      have s30 : RdSt ad W w30 lo r bs sf := ⟨s21.rd.eff he30 (fun q _ h2 h3 => by have := hown q h3; omega) (fun B cs hB h3 => row_type_ne hB hSN.row (by decide) h3) hlo, he30.below s21.below s21.below.size (fun i hi h3 => by have := hown i h3; omega)⟩
      refine ⟨k + 1, _, es ++ [⟨fl.1, di.1, ge.1, aw.1, xs, bA, bc⟩], by omega, ?_, ?_, ?_, hx30.set 4 _, hS30.eff e31 (fun q hq h => by omega), ?_, ?_⟩
      · congr 1
        omega
      · rw [HB.out.2.1, List.map_append, ← HB.out.1]
        rfl
      · rw [HB.out.2.1]
        exact s30.set hlo hobr hWob (by decide) hx30 e31
      · intro y hy
        rcases List.mem_append.1 hy with hy | hy
        · exact HB.out.2.2.1 y hy
        · rw [List.mem_singleton] at hy
          rw [hy]
          exact hnb16
      · exact (eNN.step he30 (fun i hi h3 => by have := hown i h3; omega)).step e31 (fun i _ h => .inr h)
    case measure => simp [intOf]; omega
  case rest =>
  unfold RingFin at hcut
  obtain ⟨v, es, hes, s10, hx10, hS, hb16, hel, e10⟩ := hcut
  obtain ⟨EA, ec, rfl, hse⟩ := hS.sl
  have g0 : wc.cell? ⟨ob, 0, none⟩ = some (.int .i64 a.1) := hx10.cell 0
  have g1 : wc.cell? ⟨ob, 1, none⟩ = some (.int .i64 b.1) := hx10.cell 1
  have g2 : wc.cell? ⟨ob, 2, none⟩ = some (.int .i64 c.1) := hx10.cell 2
  have g3 : wc.cell? ⟨ob, 3, none⟩ = some (.slice MA M.1.length mc) := hx10.cell 3
  have g4 : wc.cell? ⟨ob, 4, none⟩ = some (.slice EA es.length ec) := hx10.cell 4
  have hne0 : w.heap.size < w9.heap.size := v0.lt
  have y0 := e10.blk v0 (fun h => by rcases h with h | h <;> omega)
  have hsm10 := hsm9.eff e10 (fun q hq h => by have := hMw9 q hq; rcases h with h | h <;> omega)
  have E10 : Eff (· = r) w wc := E9.step e10 (fun i hi h => by rcases h with h | h <;> omega)
  have HF := hid (And.intro hes (And.intro s10 (And.intro hx10 (And.intro hS (And.intro hb16 (And.intro hel (And.intro hse (And.intro hsm10 (And.intro E10 y0)))))))))
  clear hes s10 hx10 hS hb16 hse e10 y0 hsm10 E10 s9 x9
  go_wp2_with (refine wpList_store_agg rfl 53 _ _ rfl w.heap.size 0 rfl (ringL a.1 b.1 c.1 MA M.1.length mc EA es.length ec) rfl _ 53 HF.out.2.2.2.2.2.2.2.2.2 (by simp) rfl ring_info ?_; intro w20 hx20 he20 hsz20)
  have HX20 : Hid (Blk w20 w.heap.size (ringL a.1 b.1 c.1 MA M.1.length mc EA es.length ec) 53) := hx20
  refine ret_blk Tryd.results59 w.heap.size (ringL a.1 b.1 c.1 MA M.1.length mc EA es.length ec) 53 _ (by rfl) HX20.out Tryd.underlying53 rfl ring_info (by rfl) ?_
  obtain ⟨hes, s10, hx10, hS, hb16, hel, hse, hsm10, E10, y0⟩ := HF.out
  refine ⟨MA, mc, EA, es, ec, ?_, ?_, ⟨?_, ?_, ?_, ?_⟩, ?_, ?_, ?_⟩
  · rw [← HX.out]
  · rw [← HX.out]
    exact hes.symm
  · rw [← HX.out]
    exact hsm10.eff he20 (fun q hq h => by have := hMw9 q hq; omega)
  · exact hse.eff he20 (fun q hq h => by have := (hS.row.lt q.block (by rw [hq]; rfl)).1; omega)
  · exact fun y hy => Sl.eff (hS.here y hy) he20 (fun q hq h => by have := (hS.off y hy q hq).1; omega)
  · rw [← HX.out]
    have := HML.out
    exact ⟨by show M.1.length ≤ _; omega, by omega, fun y hy => by have := hb16 y hy; omega⟩
  · rw [← HX.out]
    exact ⟨s10.rd.eff he20 (fun k _ h2 h3 => by omega) (fun B cs hB h3 => by have h3 : B = w.heap.size := h3; exact hB.type_ne y0 (by decide) h3) hlo, he20.below s10.below s10.below.size (fun i hi h3 => by omega)⟩
  · exact E10.step he20 (fun i hi h => by omega)
  · rintro q (hq | hq | ⟨y, hy, hq⟩)
    · have := (hMw9 q hq).2; omega
    · have := (hS.row.lt q.block (by rw [hq]; rfl)).1; omega
    · have := (hS.off y hy q hq).1; omega
end Go.Proofs.YtogcbiooddodlaaDoor
