/- Frames: a beat is read from its bytes. -/
import Derived.Test.YtogcbiooddodlaaDoorFramePut
namespace Go.Proofs.YtogcbiooddodlaaDoor
open Go.RowKit
set_option linter.unusedSimpArgs false

def bp (xs : List Int) (k : Nat) : Nat := (cat (xs.take k)).length
theorem num_bp {xs : List Int} {k : Nat} {low high v : Int} (h : xs[k]? = some v) (hin : ∀ n ∈ xs, inI n) (hr : low ≤ v ∧ v ≤ high) : numR (cat xs) low high (bp xs k) none = (v, bp xs (k + 1), none) := by
  obtain ⟨hk, rfl⟩ := List.getElem?_eq_some_iff.1 h
  have hn := hin _ (List.getElem_mem hk)
  rw [bp, bp, numR, cat_drop hk, rd_form hn, numAt, if_pos hr, cat_succ hk, List.length_append]
theorem bp_zero (xs : List Int) : bp xs 0 = 0 := by simp [bp, cat]
theorem bp_end (xs : List Int) : bp xs xs.length = (cat xs).length := by rw [bp, List.take_length]
theorem beat_in {f t life seen : Int} {out : Bool} (hf : 0 ≤ f ∧ f < 16) (ht : 0 ≤ t ∧ t < 16) (hl : 0 ≤ life ∧ life ≤ 281474976710655) (hs : 0 ≤ seen ∧ seen ≤ 281474976710655) : ∀ n ∈ beatN f t life seen out, inI n := by
  intro n hn
  unfold beatN at hn
  simp only [List.mem_cons, List.not_mem_nil, or_false] at hn
  unfold inI
  rcases hn with rfl | rfl | rfl | rfl | rfl | rfl | rfl
  · omega
  · omega
  · omega
  · omega
  · omega
  · omega
  · unfold bit; cases out <;> simp
theorem beat_head (f t life seen : Int) (out : Bool) : ∃ R, beatB f t life seen out = 80 :: 1 :: R := by
  refine ⟨cat [f, t, life, seen, bit out], ?_⟩
  have e : beatB f t life seen out = form (zz 40) ++ (form (zz (-1)) ++ cat [f, t, life, seen, bit out]) := by simp [beatB, beatN, cat]
  rw [e, form_40, form_1]
  rfl
theorem beat_len {f t life seen : Int} {out : Bool} (h : ∀ n ∈ beatN f t life seen out, inI n) : (beatB f t life seen out).length ≤ 70 := by
  have := cat_len h
  simpa [beatB, beatN] using this
attribute [irreducible] bp
/-- A number of the beat is read. -/
theorem read_one {ad : Int → Addr} {W w : World} {lo r k : Nat} {xs : List Int} {v : Int} (low high : Int) (hE : Errs3 ad W) (hB : Below W.heap.size W w) (hrW : W.heap.size ≤ r) (hR : RdrIs w lo r (cat xs) (bp xs k) .nilIface) (h : xs[k]? = some v) (hin : ∀ n ∈ xs, inI n) (hr : low ≤ v ∧ v ≤ high) :
    Calls Tryd.prog 19 #[.pointer (some ⟨r, 0, none⟩), .int .i64 low, .int .i64 high] w fun e w' => e = .returned (.int .i64 v) ∧ RdrIs w' lo r (cat xs) (bp xs (k + 1)) .nilIface ∧ Eff (· = r) w w' ∧ Below W.heap.size W w' := by
  have hq := num_any (o := none) low high w (hE.below hB) ⟨_, hR, rfl⟩
  rw [num_bp h hin hr] at hq
  refine hq.mono ?_
  rintro e w' ⟨he, ⟨ev, hR', hev⟩, hx⟩
  have hev : ev = .nilIface := hev
  subst hev
  exact ⟨he, hR', hx, hx.below hB hB.size (fun i hi q => by omega)⟩
def GivesFrame (w : World) (cs : Array Value) (e : Ending) (w' : World) : Prop := e = .returned (.tuple #[.agg cs, .nilIface]) ∧ Below w.heap.size w w'
set_option maxRecDepth 100000 in
set_option maxHeartbeats 6000000 in
theorem readBeat_any {ad : Int → Addr} (f t life seen : Int) (out : Bool) (A : Option Addr) (c : Nat) (w : World) (hE : Errs3 ad w) (hs : Sl w A ((beatB f t life seen out).map (Value.int .u8))) (hf : 0 ≤ f ∧ f < 16) (ht : 0 ≤ t ∧ t < 16) (hl : 0 ≤ life ∧ life ≤ 281474976710655) (hsn : 0 ≤ seen ∧ seen ≤ 281474976710655) :
    Calls Tryd.prog 39 #[.slice A (beatB f t life seen out).length c] w (GivesFrame w (beatC 1 f t life seen out 0)) := by
  have hin := beat_in (out := out) hf ht hl hsn
  have hlen := beat_len hin
  obtain ⟨R, hR⟩ := beat_head f t life seen out
  have hlen2 : (beatB f t life seen out).length = R.length + 2 := by rw [hR]; rfl
  obtain ⟨b0, o0, rfl, hbw, hcx⟩ := hs.at (by rw [List.length_map]; omega)
  have d0 : w.cell? ⟨b0, o0, none⟩ = some (.int .u8 80) := by
    have := hcx 0 (by rw [List.length_map]; omega)
    rw [hR] at this
    simpa using this
  have d1 : w.cell? ⟨b0, o0 + 1, none⟩ = some (.int .u8 1) := by
    have := hcx 1 (by rw [List.length_map]; omega)
    rw [hR] at this
    simpa using this
  have hBb : IsB (beatB f t life seen out) := cat_b _
  obtain ⟨B, hB⟩ : ∃ B, beatB f t life seen out = B := ⟨_, rfl⟩
  have hcB : cat (beatN f t life seen out) = B := hB
  have HX := hid (And.intro hin hcB)
  rw [hB] at hs hlen hlen2 hBb ⊢
  have hl0 : ((B.length : Int) == 0) = false := by rw [beq_eq_false_iff_ne]; omega
  have hl2 : ¬ (B.length : Int) < 2 := by omega
  have hl1 : (0 : Int) < B.length := by omega
  have hl1' : (1 : Int) < B.length := by omega
  have hblk : Below w.heap.size w (w.alloc (.cells #[.int .i64 0, .int .i64 0, .int .i64 0, .int .i64 0, .int .i64 0, .bool false, .int .i64 0, .int .i64 0, .int .i64 0, .slice none 0 0, .slice none 0 0] 64)) := (Below.refl _ _).alloc (Nat.le_refl _) _
  have hnr := newReader_any (some ⟨b0, o0, none⟩) c B _ (It2 hs hblk) (by omega) hBb
  have HF := hid (And.intro hf (And.intro ht (And.intro hl hsn)))
  clear hin hR hcx hB hcB hs hf ht hl hsn hlen2
  go_enter Tryd.func39, Tryd.ntmps39
  go_wp2_with fail
  refine hnr.mono ?_
  rintro e w2 ⟨r, rfl, hR2, hr2, hb2⟩
  have hB2 := hblk.trans (hb2.mono hblk.size)
  have hrW : w.heap.size ≤ r := Nat.le_trans hblk.size hr2
  have d1' : w2.cell? ⟨b0, o0 + 1, none⟩ = some (.int .u8 1) := (hB2.cell (p := ⟨b0, o0 + 1, none⟩) hbw).trans d1
  have hres : Blk w2 w.heap.size [.int .i64 0, .int .i64 0, .int .i64 0, .int .i64 0, .int .i64 0, .bool false, .int .i64 0, .int .i64 0, .int .i64 0, .slice none 0 0, .slice none 0 0] 64 := (Eff.of_below (S := fun _ => False) hb2).blk (Blk.new w _ _) (fun h => h)
  have hh1 : w.heap.size < (w.alloc (.cells #[.int .i64 0, .int .i64 0, .int .i64 0, .int .i64 0, .int .i64 0, .bool false, .int .i64 0, .int .i64 0, .int .i64 0, .slice none 0 0, .slice none 0 0] 64)).heap.size := by simp
  have hrne : r ≠ w.heap.size := by omega
  clear hh1
  have hrl : r < w2.heap.size := by obtain ⟨_, _, h, _⟩ := hR2.blk; exact h.lt
  generalize (w.alloc (.cells #[.int .i64 0, .int .i64 0, .int .i64 0, .int .i64 0, .int .i64 0, .bool false, .int .i64 0, .int .i64 0, .int .i64 0, .slice none 0 0, .slice none 0 0] 64)).heap.size = lo at *
  have hR2 : RdrIs w2 lo r (cat (beatN f t life seen out)) (bp (beatN f t life seen out) 0) .nilIface := by rw [HX.out.2, bp_zero]; exact hR2
  clear hnr hb2 hblk d0 d1
  go_upto_region 7 with (fail)
  have hb3 : Below w2.heap.size w2 (w2.alloc (.cells #[.int .i64 1, .int .i64 0, .int .i64 0, .int .i64 0, .int .i64 0, .bool false, .int .i64 0, .int .i64 0, .int .i64 0, .slice none 0 0, .slice none 0 0] 64)) := (Below.refl _ _).alloc (Nat.le_refl _) _
  have hF3 : Blk (w2.alloc (.cells #[.int .i64 1, .int .i64 0, .int .i64 0, .int .i64 0, .int .i64 0, .bool false, .int .i64 0, .int .i64 0, .int .i64 0, .slice none 0 0, .slice none 0 0] 64)) w2.heap.size [.int .i64 1, .int .i64 0, .int .i64 0, .int .i64 0, .int .i64 0, .bool false, .int .i64 0, .int .i64 0, .int .i64 0, .slice none 0 0, .slice none 0 0] 64 := Blk.new w2 _ _
  have hR3 := hR2.on hb3
  have hV3 := (Eff.of_below (S := fun _ => False) hb3).blk hres (fun h => h)
  have hB3 := hB2.trans (hb3.mono hB2.size)
  have hW2 := hB2.size
  generalize w2.alloc (.cells #[.int .i64 1, .int .i64 0, .int .i64 0, .int .i64 0, .int .i64 0, .bool false, .int .i64 0, .int .i64 0, .int .i64 0, .slice none 0 0, .slice none 0 0] 64) = w3 at *
  generalize w2.heap.size = tf at *
  have hk : ∀ (k : Nat) (v : Int), (beatN f t life seen out)[k]? = some v → (beatN f t life seen out)[k]? = some v := fun _ _ h => h
  have htf1 : w.heap.size ≠ tf := by omega
  clear hR2 hres hb3 hB2 hk
  have hq := read_one (k := 0) (v := 40) (40) (40) hE hB3 hrW hR3 rfl HX.out.1 (by omega)
  go_wp2_with fail
  refine hq.mono ?_
  rintro e w4 ⟨rfl, hR4, he4, hB4⟩
  have hF4 := he4.blk hF3 (fun q => by omega)
  have hV4 := he4.blk hV3 (fun q => hrne q.symm)
  clear hq hR3 hF3 hV3 hB3 he4
  have hq := read_one (k := 1) (v := -1) (-1) (1) hE hB4 hrW hR4 rfl HX.out.1 (by omega)
  go_wp2_with fail
  refine hq.mono ?_
  rintro e w5 ⟨rfl, hR5, he5, hB5⟩
  have hF5 := he5.blk hF4 (fun q => by omega)
  have hV5 := he5.blk hV4 (fun q => hrne q.symm)
  clear hq hR4 hF4 hV4 hB4 he5
  have hq := read_one (k := 2) (v := f) (0) (15) hE hB5 hrW hR5 rfl HX.out.1 (by have := HF.out; omega)
  go_wp2_with fail
  refine hq.mono ?_
  rintro e w6 ⟨rfl, hR6, he6, hB6⟩
  have hF6 := he6.blk hF5 (fun q => by omega)
  have hV6 := he6.blk hV5 (fun q => hrne q.symm)
  clear hq hR5 hF5 hV5 hB5 he6
  have hq := read_one (k := 3) (v := t) (0) (15) hE hB6 hrW hR6 rfl HX.out.1 (by have := HF.out; omega)
  go_wp2_with fail
  refine hq.mono ?_
  rintro e w7 ⟨rfl, hR7, he7, hB7⟩
  have hF7 := he7.blk hF6 (fun q => by omega)
  have hV7 := he7.blk hV6 (fun q => hrne q.symm)
  clear hq hR6 hF6 hV6 hB6 he7
  have f1 : w7.cell? ⟨tf, 1, none⟩ = some (.int .i64 0) := hF7.cell 1
  have f2 : w7.cell? ⟨tf, 2, none⟩ = some (.int .i64 0) := hF7.cell 2
  have hff : ∀ o, w7.frozen? ⟨tf, o, none⟩ = false := hF7.frozen
  have hF8 := ((hF7.set 1 (.int .i64 f)).set 2 (.int .i64 t))
  have he8 := (((Eff.one tf w7).set 1 (.int .i64 f)).set 2 (.int .i64 t))
  have hR8 := hR7.eff he8 (fun k h1 h2 q => by omega) hr2
  have hB8 := ((hB7.setCell (p := ⟨tf, 1, none⟩) hW2 (.int .i64 f)).setCell (p := ⟨tf, 2, none⟩) hW2 (.int .i64 t))
  have hV8 := (he8.blk hV7 (fun q => by omega))
  clear hR7 hF7 hB7 hV7 he8
  go_upto_region 10 with (fail)
  generalize (w7.setCell ⟨tf, 1, none⟩ (.int .i64 f)).setCell ⟨tf, 2, none⟩ (.int .i64 t) = w8 at *
  clear hff f1 f2
  have f0 : w8.cell? ⟨tf, 0, none⟩ = some (.int .i64 1) := hF8.cell 0
  have hq := read_one (k := 4) (v := life) (0) (281474976710655) hE hB8 hrW hR8 rfl HX.out.1 (by have := HF.out; omega)
  go_wp2_with fail
  refine hq.mono ?_
  rintro e w9 ⟨rfl, hR9, he9, hB9⟩
  have hF9 := he9.blk hF8 (fun q => by omega)
  have hV9 := he9.blk hV8 (fun q => hrne q.symm)
  clear hq hR8 hF8 hV8 hB8 he9
  clear f0
  have hq := read_one (k := 5) (v := seen) (0) (281474976710655) hE hB9 hrW hR9 rfl HX.out.1 (by have := HF.out; omega)
  go_wp2_with fail
  refine hq.mono ?_
  rintro e w10 ⟨rfl, hR10, he10, hB10⟩
  have hF10 := he10.blk hF9 (fun q => by omega)
  have hV10 := he10.blk hV9 (fun q => hrne q.symm)
  clear hq hR9 hF9 hV9 hB9 he10
  have f3 : w10.cell? ⟨tf, 3, none⟩ = some (.int .i64 0) := hF10.cell 3
  have f4 : w10.cell? ⟨tf, 4, none⟩ = some (.int .i64 0) := hF10.cell 4
  have hff : ∀ o, w10.frozen? ⟨tf, o, none⟩ = false := hF10.frozen
  have hF11 := ((hF10.set 3 (.int .i64 life)).set 4 (.int .i64 seen))
  have he11 := (((Eff.one tf w10).set 3 (.int .i64 life)).set 4 (.int .i64 seen))
  have hR11 := hR10.eff he11 (fun k h1 h2 q => by omega) hr2
  have hB11 := ((hB10.setCell (p := ⟨tf, 3, none⟩) hW2 (.int .i64 life)).setCell (p := ⟨tf, 4, none⟩) hW2 (.int .i64 seen))
  have hV11 := (he11.blk hV10 (fun q => by omega))
  clear hR10 hF10 hB10 hV10 he11
  go_upto_region 12 with (fail)
  generalize (w10.setCell ⟨tf, 3, none⟩ (.int .i64 life)).setCell ⟨tf, 4, none⟩ (.int .i64 seen) = w11 at *
  clear hff f3 f4
  have hq : Calls Tryd.prog 30 #[.pointer (some ⟨r, 0, none⟩)] w11 (GivesBoolR ad w11 lo r (cat (beatN f t life seen out)) out (bp (beatN f t life seen out) 7, none)) := by
    have h := bool_any (o := none) w11 (hE.below hB11) ⟨_, hR11, rfl⟩
    rw [num_bp (k := 6) (v := bit out) rfl HX.out.1 (by unfold bit; cases out <;> simp)] at h
    rw [show (bit out == 1) = out by unfold bit; cases out <;> rfl] at h
    exact h
  go_wp2_with fail
  refine hq.mono ?_
  rintro e w12 ⟨rfl, ⟨ev, hR12, hev⟩, he12⟩
  have hev : ev = .nilIface := hev
  subst hev
  have hR12 : RdrIs w12 lo r (cat (beatN f t life seen out)) (bp (beatN f t life seen out) 7) .nilIface := hR12
  have hB12 : Below w.heap.size w w12 := he12.below hB11 hB11.size (fun i hi q => by omega)
  have hF12 := he12.blk hF11 (fun q => by omega)
  have hV12 := he12.blk hV11 (fun q => hrne q.symm)
  clear hq hR11 hF11 hV11 hB11 he12
  have f5 : w12.cell? ⟨tf, 5, none⟩ = some (.bool false) := hF12.cell 5
  have hff : ∀ o, w12.frozen? ⟨tf, o, none⟩ = false := hF12.frozen
  have hF13 := (hF12.set 5 (.bool out))
  have he13 := ((Eff.one tf w12).set 5 (.bool out))
  have hR13 := hR12.eff he13 (fun k h1 h2 q => by omega) hr2
  have hB13 := (hB12.setCell (p := ⟨tf, 5, none⟩) hW2 (.bool out))
  have hV13 := (he13.blk hV12 (fun q => by omega))
  clear hR12 hF12 hB12 hV12 he13
  go_upto_region 14 with (fail)
  generalize w12.setCell ⟨tf, 5, none⟩ (.bool out) = w13 at *
  clear hff f5
  go_wp2_with fail
  refine (errOf_any _ hR13).mono ?_
  rintro e w' ⟨rfl, rfl⟩
  have hle := left_any w13 hR13
  rw [show bp (beatN f t life seen out) 7 = (cat (beatN f t life seen out)).length from bp_end (beatN f t life seen out), Int.sub_self] at hle
  go_wp2_with fail
  refine hle.mono ?_
  rintro e w' ⟨rfl, q1, rfl⟩
  have hbd := below_drewN (Below.refl w13.heap.size w13) q1
  have hF14 := (Eff.of_below (S := fun _ => False) hbd).blk hF13 (fun h => h)
  have hV14 := (Eff.of_below (S := fun _ => False) hbd).blk hV13 (fun h => h)
  have hB14 := hB13.trans (hbd.mono hB13.size)
  clear hle hR13 hF13 hV13 hB13 hbd
  generalize w13.drewN q1 = w14 at *
  have hF14 : Blk w14 tf [.int .i64 1, .int .i64 f, .int .i64 t, .int .i64 life, .int .i64 seen, .bool out, .int .i64 0, .int .i64 0, .int .i64 0, .slice none 0 0, .slice none 0 0] 64 := hF14
  have f0 := hF14.cell 0
  have f1 := hF14.cell 1
  have f2 := hF14.cell 2
  have f3 := hF14.cell 3
  have f4 := hF14.cell 4
  have f5 := hF14.cell 5
  have f6 := hF14.cell 6
  have f7 := hF14.cell 7
  have f8 := hF14.cell 8
  have f9 := hF14.cell 9
  have f10 := hF14.cell 10
  have f0 : w14.cell? ⟨tf, 0, none⟩ = some (.int .i64 1) := f0
  have f1 : w14.cell? ⟨tf, 1, none⟩ = some (.int .i64 f) := f1
  have f2 : w14.cell? ⟨tf, 2, none⟩ = some (.int .i64 t) := f2
  have f3 : w14.cell? ⟨tf, 3, none⟩ = some (.int .i64 life) := f3
  have f4 : w14.cell? ⟨tf, 4, none⟩ = some (.int .i64 seen) := f4
  have f5 : w14.cell? ⟨tf, 5, none⟩ = some (.bool out) := f5
  have f6 : w14.cell? ⟨tf, 6, none⟩ = some (.int .i64 0) := f6
  have f7 : w14.cell? ⟨tf, 7, none⟩ = some (.int .i64 0) := f7
  have f8 : w14.cell? ⟨tf, 8, none⟩ = some (.int .i64 0) := f8
  have f9 : w14.cell? ⟨tf, 9, none⟩ = some (.slice none 0 0) := f9
  have f10 : w14.cell? ⟨tf, 10, none⟩ = some (.slice none 0 0) := f10
  have hv := valid_any f t life seen out 0 w14 (hE.below hB14) HF.out.1 HF.out.2.1
  rw [show beatE life seen 0 = 0 from if_pos ⟨HF.out.2.2.1, HF.out.2.2.2, rfl⟩] at hv
  go_wp2_with fail
  refine hv.mono ?_
  rintro e w15 ⟨rfl, hb15⟩
  rw [errV_zero]
  have hF15 := (Eff.of_below (S := fun _ => False) hb15).blk hF14 (fun h => h)
  have hV15 := (Eff.of_below (S := fun _ => False) hb15).blk hV14 (fun h => h)
  have hB15 := hB14.trans (hb15.mono hB14.size)
  clear hv hb15 hF14 hV14 hB14 f0 f1 f2 f3 f4 f5 f6 f7 f8 f9 f10
  have f0 : w15.cell? ⟨tf, 0, none⟩ = some (.int .i64 1) := hF15.cell 0
  have f1 : w15.cell? ⟨tf, 1, none⟩ = some (.int .i64 f) := hF15.cell 1
  have f2 : w15.cell? ⟨tf, 2, none⟩ = some (.int .i64 t) := hF15.cell 2
  have f3 : w15.cell? ⟨tf, 3, none⟩ = some (.int .i64 life) := hF15.cell 3
  have f4 : w15.cell? ⟨tf, 4, none⟩ = some (.int .i64 seen) := hF15.cell 4
  have f5 : w15.cell? ⟨tf, 5, none⟩ = some (.bool out) := hF15.cell 5
  have f6 : w15.cell? ⟨tf, 6, none⟩ = some (.int .i64 0) := hF15.cell 6
  have f7 : w15.cell? ⟨tf, 7, none⟩ = some (.int .i64 0) := hF15.cell 7
  have f8 : w15.cell? ⟨tf, 8, none⟩ = some (.int .i64 0) := hF15.cell 8
  have f9 : w15.cell? ⟨tf, 9, none⟩ = some (.slice none 0 0) := hF15.cell 9
  have f10 : w15.cell? ⟨tf, 10, none⟩ = some (.slice none 0 0) := hF15.cell 10
  have g0 : w15.cell? ⟨w.heap.size, 0, none⟩ = some (.int .i64 0) := hV15.cell 0
  have g1 : w15.cell? ⟨w.heap.size, 1, none⟩ = some (.int .i64 0) := hV15.cell 1
  have g2 : w15.cell? ⟨w.heap.size, 2, none⟩ = some (.int .i64 0) := hV15.cell 2
  have g3 : w15.cell? ⟨w.heap.size, 3, none⟩ = some (.int .i64 0) := hV15.cell 3
  have g4 : w15.cell? ⟨w.heap.size, 4, none⟩ = some (.int .i64 0) := hV15.cell 4
  have g5 : w15.cell? ⟨w.heap.size, 5, none⟩ = some (.bool false) := hV15.cell 5
  have g6 : w15.cell? ⟨w.heap.size, 6, none⟩ = some (.int .i64 0) := hV15.cell 6
  have g7 : w15.cell? ⟨w.heap.size, 7, none⟩ = some (.int .i64 0) := hV15.cell 7
  have g8 : w15.cell? ⟨w.heap.size, 8, none⟩ = some (.int .i64 0) := hV15.cell 8
  have g9 : w15.cell? ⟨w.heap.size, 9, none⟩ = some (.slice none 0 0) := hV15.cell 9
  have g10 : w15.cell? ⟨w.heap.size, 10, none⟩ = some (.slice none 0 0) := hV15.cell 10
  have hgf : ∀ o, w15.frozen? ⟨w.heap.size, o, none⟩ = false := hV15.frozen
  have HB := hid (((((((((((hB15.setCell (p := ⟨w.heap.size, 0, none⟩) (Nat.le_refl _) (.int .i64 1)).setCell (p := ⟨w.heap.size, 1, none⟩) (Nat.le_refl _) (.int .i64 f)).setCell (p := ⟨w.heap.size, 2, none⟩) (Nat.le_refl _) (.int .i64 t)).setCell (p := ⟨w.heap.size, 3, none⟩) (Nat.le_refl _) (.int .i64 life)).setCell (p := ⟨w.heap.size, 4, none⟩) (Nat.le_refl _) (.int .i64 seen)).setCell (p := ⟨w.heap.size, 5, none⟩) (Nat.le_refl _) (.bool out)).setCell (p := ⟨w.heap.size, 6, none⟩) (Nat.le_refl _) (.int .i64 0)).setCell (p := ⟨w.heap.size, 7, none⟩) (Nat.le_refl _) (.int .i64 0)).setCell (p := ⟨w.heap.size, 8, none⟩) (Nat.le_refl _) (.int .i64 0)).setCell (p := ⟨w.heap.size, 9, none⟩) (Nat.le_refl _) (.slice none 0 0)).setCell (p := ⟨w.heap.size, 10, none⟩) (Nat.le_refl _) (.slice none 0 0))
  have hVF : Blk (((((((((((w15.setCell ⟨w.heap.size, 0, none⟩ (.int .i64 1)).setCell ⟨w.heap.size, 1, none⟩ (.int .i64 f)).setCell ⟨w.heap.size, 2, none⟩ (.int .i64 t)).setCell ⟨w.heap.size, 3, none⟩ (.int .i64 life)).setCell ⟨w.heap.size, 4, none⟩ (.int .i64 seen)).setCell ⟨w.heap.size, 5, none⟩ (.bool out)).setCell ⟨w.heap.size, 6, none⟩ (.int .i64 0)).setCell ⟨w.heap.size, 7, none⟩ (.int .i64 0)).setCell ⟨w.heap.size, 8, none⟩ (.int .i64 0)).setCell ⟨w.heap.size, 9, none⟩ (.slice none 0 0)).setCell ⟨w.heap.size, 10, none⟩ (.slice none 0 0)) w.heap.size [.int .i64 1, .int .i64 f, .int .i64 t, .int .i64 life, .int .i64 seen, .bool out, .int .i64 0, .int .i64 0, .int .i64 0, .slice none 0 0, .slice none 0 0] 64 := (((((((((((hV15.set 0 (.int .i64 1)).set 1 (.int .i64 f)).set 2 (.int .i64 t)).set 3 (.int .i64 life)).set 4 (.int .i64 seen)).set 5 (.bool out)).set 6 (.int .i64 0)).set 7 (.int .i64 0)).set 8 (.int .i64 0)).set 9 (.slice none 0 0)).set 10 (.slice none 0 0))
  have HVF := hid hVF
  clear hF15 hV15 hB15 hVF
  go_wp2_with fail
  generalize ((((((((((w15.setCell ⟨w.heap.size, 0, none⟩ (.int .i64 1)).setCell ⟨w.heap.size, 1, none⟩ (.int .i64 f)).setCell ⟨w.heap.size, 2, none⟩ (.int .i64 t)).setCell ⟨w.heap.size, 3, none⟩ (.int .i64 life)).setCell ⟨w.heap.size, 4, none⟩ (.int .i64 seen)).setCell ⟨w.heap.size, 5, none⟩ (.bool out)).setCell ⟨w.heap.size, 6, none⟩ (.int .i64 0)).setCell ⟨w.heap.size, 7, none⟩ (.int .i64 0)).setCell ⟨w.heap.size, 8, none⟩ (.int .i64 0)).setCell ⟨w.heap.size, 9, none⟩ (.slice none 0 0)).setCell ⟨w.heap.size, 10, none⟩ (.slice none 0 0) = wF at *
  clear f0 g0 f1 g1 f2 g2 f3 g3 f4 g4 f5 g5 f6 g6 f7 g7 f8 g8 f9 g9 f10 g10 hgf
  have f0 : wF.cell? ⟨w.heap.size, 0, none⟩ = some (.int .i64 1) := HVF.out.cell 0
  have f1 : wF.cell? ⟨w.heap.size, 1, none⟩ = some (.int .i64 f) := HVF.out.cell 1
  have f2 : wF.cell? ⟨w.heap.size, 2, none⟩ = some (.int .i64 t) := HVF.out.cell 2
  have f3 : wF.cell? ⟨w.heap.size, 3, none⟩ = some (.int .i64 life) := HVF.out.cell 3
  have f4 : wF.cell? ⟨w.heap.size, 4, none⟩ = some (.int .i64 seen) := HVF.out.cell 4
  have f5 : wF.cell? ⟨w.heap.size, 5, none⟩ = some (.bool out) := HVF.out.cell 5
  have f6 : wF.cell? ⟨w.heap.size, 6, none⟩ = some (.int .i64 0) := HVF.out.cell 6
  have f7 : wF.cell? ⟨w.heap.size, 7, none⟩ = some (.int .i64 0) := HVF.out.cell 7
  have f8 : wF.cell? ⟨w.heap.size, 8, none⟩ = some (.int .i64 0) := HVF.out.cell 8
  have f9 : wF.cell? ⟨w.heap.size, 9, none⟩ = some (.slice none 0 0) := HVF.out.cell 9
  have f10 : wF.cell? ⟨w.heap.size, 10, none⟩ = some (.slice none 0 0) := HVF.out.cell 10
  try simp only [Exit.inBlock, Exit.then]
  refine bodyPost_ret (by simp [results, Tryd.results39, go_sem, f0, f1, f2, f3, f4, f5, f6, f7, f8, f9, f10]; try rfl) rfl ?_
  exact ⟨rfl, HB.out⟩
end Go.Proofs.YtogcbiooddodlaaDoor
