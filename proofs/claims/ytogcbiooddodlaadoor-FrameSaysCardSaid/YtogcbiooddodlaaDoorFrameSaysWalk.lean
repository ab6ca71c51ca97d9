/- FrameSays: the reference's ReadFrame, and the walk (several texts in one). -/
import Derived.Test.YtogcbiooddodlaaDoorRefSideF
namespace Go.Proofs.YtogcbiooddodlaaDoor
open Go.RowKit
set_option linter.unusedSimpArgs false


/-- Two struct results, each in a block. -/
theorem ret_two {P : Program} {fn : Func} {R : Ending → World → Prop} {a : Act} {w : World} {p q : Tmp} {ty ty' : TypeId} (h : fn.results = #[.cell p ty, .cell q ty']) (g g' : Nat) (cs cs' : List Value) (E E' : TypeId) (d d' : TypeDesc)
    (hp : a.tmps.getD p undef = .pointer (some ⟨g, 0, none⟩)) (hq : a.tmps.getD q undef = .pointer (some ⟨g', 0, none⟩)) (hb : Blk w g cs E) (hb' : Blk w g' cs' E') (hu : P.underlying ty = some d) (hu' : P.underlying ty' = some d') (hd : isAggDesc d = true) (hd' : isAggDesc d' = true)
    (hi : (P.info? ty).map (·.size) = some cs.length) (hi' : (P.info? ty').map (·.size) = some cs'.length) (hdf : a.defers = [])
    (hR : R (.returned (.tuple #[.agg cs.toArray, .agg cs'.toArray])) w) : bodyPost P fn R .ret a w := by
  refine bodyPost_ret ?_ hdf hR
  have hp' : a.tmps[p]?.getD undef = .pointer (some ⟨g, 0, none⟩) := by simpa using hp
  have hq' : a.tmps[q]?.getD undef = .pointer (some ⟨g', 0, none⟩) := by simpa using hq
  have hlv := run_loadVar_row (P := P) w g E ty cs.toArray (0, 0) d hb hu (by cases d <;> simp_all [isAggDesc]) (by simpa using hi)
  have hlv' := run_loadVar_row (P := P) w g' E' ty' cs'.toArray (0, 0) d' hb' hu' (by cases d' <;> simp_all [isAggDesc]) (by simpa using hi')
  simp [results, h, hp', hq', asAddr, hlv, hlv']
theorem fault_size : (Tryd.prog.info? 35).map (·.size) = some 3 := by kernel_rfl
theorem QSt.alloc {W w : World} {r : Nat} {A : Option Addr} {c : Nat} {bs : List Int} {s : RS} (h : QSt W w r A c bs s) (hrW : W.heap.size ≤ r) (o : Obj) : QSt W (w.alloc o) r A c bs s :=
  h.eff (Eff.of_below (S := fun _ => False) ((Below.refl _ _).alloc (Nat.le_refl _) o)) (fun _ _ h => h) hrW
/-- What the reference's ReadFrame hands on: a frame, or the zero one, and a fault. -/
def FaultOut (g : FrL) (c : Int) (is : Bool) (p : Int) : RF → Prop
  | .ok f => c = 0 ∧ is = false ∧ p = 0 ∧ g.pl = f
  | .bare k => c = k ∧ is = false ∧ p = 0 ∧ g = zeroF
  | .at k q => c = k ∧ is = true ∧ p = q ∧ g = zeroF
def GivesReadQ (w : World) (R : RF) (e : Ending) (w' : World) : Prop := ∃ (g : FrL) (c : Int) (is : Bool) (p : Int), e = .returned (.tuple #[g.val, faultV c is p]) ∧ RingIs w' g.MA g.ms g.EA g.es ∧ FaultOut g c is p R ∧ Below w.heap.size w w'
/-- Behind the two cars. -/
def ReadMid (W w3 : World) (r : Nat) (A : Option Addr) (c : Nat) (bs : List Int) (kind ff ft : Int) (s : RS) (v : Value) (wx : World) : Prop := ∃ tf, v = .pointer (some ⟨tf, 0, none⟩) ∧ w3.heap.size ≤ tf ∧ Blk wx tf (frameL kind ff ft 0 0 false 0 0 0 none 0 0 none 0 0) 64 ∧ QSt W wx r A c bs s ∧ Eff (· = r) w3 wx
/-- Behind the frame. -/
def ReadEnd (W w3 : World) (r tf : Nat) (A : Option Addr) (c : Nat) (bs : List Int) (X : FrameP × RS) (wx : World) : Prop := ∃ g : FrL, Blk wx tf g.cells 64 ∧ RingIs wx g.MA g.ms g.EA g.es ∧ QSt W wx r A c bs X.2 ∧ (X.2.2 = none → g.pl = X.1) ∧ Eff (fun q => q = r ∨ q = tf) w3 wx ∧ ∀ q, (g.MA = some q ∨ g.EA = some q ∨ ∃ y ∈ g.es, y.A = some q) → w3.heap.size ≤ q.block
attribute [irreducible] ReadMid ReadEnd
def GivesBQ (W w : World) (r : Nat) (A : Option Addr) (c : Nat) (bs : List Int) (a : Int × RS) (e : Ending) (w' : World) : Prop := e = .returned (.bool (a.1 == 1)) ∧ QSt W w' r A c bs a.2 ∧ Eff (· = r) w w'
theorem boolq_step {W w : World} {r : Nat} {A : Option Addr} {c : Nat} {bs : List Int} {s : RS} (hrW : W.heap.size ≤ r) (h : QSt W w r A c bs s) :
    Calls Tryd.prog 64 #[.pointer (some ⟨r, 0, none⟩)] w (GivesBQ W w r A c bs (numS bs 0 1 s)) := by
  have q1 := numq_step 0 1 hrW h
  generalize numS bs 0 1 s = a at *
  clear h
  go_enter Tryd.func64, Tryd.ntmps64
  go_wp2_with fail
  refine q1.mono ?_
  rintro e w' ⟨rfl, s1, t1⟩
  go_wp2_with fail
  go_ret
  exact ⟨rfl, s1, t1⟩
theorem readq_zero {w w' : World} {R : RF} {e : Ending} {c : Int} {is : Bool} {p : Int} (he : e = .returned (.tuple #[.agg (frameV 0 0 0 0 0 false 0 0 0 none 0 0 none 0 0), faultV c is p])) (hR : FaultOut zeroF c is p R) (hB : Below w.heap.size w w') : GivesReadQ w R e w' := ⟨zeroF, c, is, p, he, ring_nil w', hR, hB⟩
set_option maxRecDepth 100000 in
set_option maxHeartbeats 8000000 in
theorem refReadF_any (A : Option Addr) (c : Nat) (bs : List Int) (w : World) (hs : Sl w A (bs.map (Value.int .u8))) (hBb : IsB bs) (hl : bs.length ≤ 1000000) :
    Calls Tryd.prog 42 #[.slice A bs.length c] w (GivesReadQ w (readR bs)) := by
  obtain ⟨w1, hw1⟩ : ∃ w1, w1 = (w.alloc (.cells (frameV 0 0 0 0 0 false 0 0 0 none 0 0 none 0 0) 64)).alloc (.cells #[.int .i64 0, .bool false, .int .i64 0] 35) := ⟨_, rfl⟩
  have hB1 : Below w.heap.size w w1 := by rw [hw1]; exact ((Below.refl _ _).alloc (Nat.le_refl _) _).alloc (by simp) _
  have x1 : Blk w1 w.heap.size (frameL 0 0 0 0 0 false 0 0 0 none 0 0 none 0 0) 64 := by rw [hw1]; exact (Blk.new w _ _).alloc _
  have z1 : Blk w1 (w.heap.size + 1) [.int .i64 0, .bool false, .int .i64 0] 35 := by
    rw [hw1, show w.heap.size + 1 = (w.alloc (.cells (frameV 0 0 0 0 0 false 0 0 0 none 0 0 none 0 0) 64)).heap.size from by simp]
    exact Blk.new _ _ _
  have hs1 := It2 hs hB1
  generalize hRR : readR bs = R
  unfold readR at hRR
  go_enter Tryd.func42, Tryd.ntmps42
  go_upto_region 1 with (fail)
  rw [← hw1]
  clear hw1
  obtain ⟨rf, hrf⟩ : ∃ rf, rf = w.heap.size + 1 := ⟨_, rfl⟩
  rw [← hrf] at z1 ⊢
  have hwf : w.heap.size ≠ rf := by omega
  have hwf2 : w.heap.size < rf := by omega
  have hwf3 : rf < w1.heap.size := z1.lt
  have HZ := hid (And.intro x1 (And.intro z1 hB1))
  clear hrf hs x1 z1
  by_cases h1 : bs.length = 0 ∨ bs.getD 0 0 ≠ 80
  case pos =>
    rw [if_pos h1] at hRR
    have HRR := hid hRR
    clear hRR
    have hba := bare_any 102 w1
    go_cut [16] (fun v wx => v = .bool true ∧ wx = w1)
    case first =>
      by_cases h0 : bs.length = 0
      · have hl0 : ((bs.length : Int)) < 1 := by omega
        clear h1 hs1 h0 hB1 hba
        go_wp2_with fail
        go_meet
        exact ⟨by first | rfl | rw [decide_eq_true (by omega)], rfl⟩
      · have hl0 : 1 ≤ ((bs.length : Int)) := by omega
        have hlp : 0 < ((bs.length : Int)) := by omega
        obtain ⟨b0, o0, rfl, hbw, hcx⟩ := hs1.at (by rw [List.length_map]; omega)
        have d0 : w1.cell? ⟨b0, o0, none⟩ = some (.int .u8 (bs.getD 0 0)) := (hcx 0 (by rw [List.length_map]; omega)).trans (getD_u8 (by omega))
        have h80 : bs.getD 0 0 ≠ 80 := by omega
        obtain ⟨y, hy⟩ : ∃ y, bs.getD 0 0 = y := ⟨_, rfl⟩
        rw [hy] at d0 h80
        have hyb : (y != 80) = true := by simpa using h80
        clear h1 hs1 hcx hy h80 h0 hB1 hba
        go_wp2_with fail
        go_meet
        exact ⟨by first | rfl | rw [decide_eq_true (by omega)], rfl⟩
    case rest =>
    obtain ⟨rfl, hcut⟩ := hcut
    obtain rfl : w1 = _ := hcut.symm
    clear h1 hs1 hB1 hcut
    go_wp2_with fail
    refine hba.mono ?_
    rintro e w2 ⟨rfl, hb2⟩
    have HX := hid (And.intro ((Eff.of_below (S := fun _ => False) hb2).blk HZ.out.1 (fun h => h)) (And.intro ((Eff.of_below (S := fun _ => False) hb2).blk HZ.out.2.1 (fun h => h)) (HZ.out.2.2.trans (hb2.mono HZ.out.2.2.size))))
    clear hb2 hba
    go_wp2_with (first | (refine wpList_store_agg rfl 64 _ _ rfl w.heap.size 0 rfl (frameL 0 0 0 0 0 false 0 0 0 none 0 0 none 0 0) rfl _ 64 HX.out.1 (by simp) rfl frame_info ?_; intro w98 hx98 he98 hsz98; have H98 : Hid (Blk w98 w.heap.size (frameL 0 0 0 0 0 false 0 0 0 none 0 0 none 0 0) 64 ∧ Eff (· = w.heap.size) w2 w98) := ⟨hx98, he98⟩; have Z98 := hid (he98.blk HX.out.2.1 (fun h => hwf h.symm)); clear hx98 he98 hsz98) | (refine wpList_store_agg rfl 35 _ _ rfl rf 0 rfl [.int .i64 102, .bool false, .int .i64 0] rfl _ 35 Z98.out (by simp) rfl fault_size ?_; intro w99 hx99 he99 hsz99; have H99 : Hid (Blk w99 rf [.int .i64 102, .bool false, .int .i64 0] 35 ∧ Eff (· = rf) w98 w99) := ⟨hx99, he99⟩; clear hx99 he99 hsz99))
    refine ret_two Tryd.results42 w.heap.size rf (frameL 0 0 0 0 0 false 0 0 0 none 0 0 none 0 0) [.int .i64 102, .bool false, .int .i64 0] 64 35 _ _ (by rfl) (by rfl) (H99.out.2.blk H98.out.1 hwf) H99.out.1 Tryd.underlying64 Tryd.underlying35 rfl rfl frame_info fault_size (by rfl) ?_
    rw [← HRR.out]
    exact readq_zero rfl ⟨rfl, rfl, rfl, rfl⟩ (H99.out.2.below (H98.out.2.below HX.out.2.2 HX.out.2.2.size (fun i hi h => by omega)) (Nat.le_trans HX.out.2.2.size H98.out.2.size) (fun i hi h => by omega))
  rw [if_neg h1] at hRR
  have hl1 : 1 ≤ bs.length := by omega
  have h80 : bs.getD 0 0 = 80 := by omega
  have hl0 : 1 ≤ ((bs.length : Int)) := by omega
  have hlp : 0 < ((bs.length : Int)) := by omega
  obtain ⟨b0, o0, hA0, hbw, hcx⟩ := hs1.at (by rw [List.length_map]; omega)
  obtain rfl : A = _ := hA0
  have d0 : w1.cell? ⟨b0, o0, none⟩ = some (.int .u8 80) := (hcx 0 (by rw [List.length_map]; omega)).trans ((getD_u8 (by omega)).trans (by rw [h80]))
  by_cases h2 : bs.length < 2 ∨ bs.getD 1 0 ≠ 1 ∧ bs.getD 1 0 ≠ 2
  case pos =>
    rw [if_pos h2] at hRR
    have HRR := hid hRR
    clear hRR
    have hba := bare_any 107 w1
    go_upto_region 3 with (fail)
    go_cut [33] (fun v wx => v = .bool true ∧ wx = w1)
    case first =>
      by_cases h3 : bs.length < 2
      · have hl2 : ((bs.length : Int)) < 2 := by omega
        clear h1 hs1 h2 h3 hB1 hcx h80 hba
        go_wp2_with fail
        go_meet
        exact ⟨by first | rfl | rw [decide_eq_true (by omega)], rfl⟩
      · have hl2 : 2 ≤ ((bs.length : Int)) := by omega
        have hlp1 : 1 < ((bs.length : Int)) := by omega
        have d1 : w1.cell? ⟨b0, o0 + 1, none⟩ = some (.int .u8 (bs.getD 1 0)) := (hcx 1 (by rw [List.length_map]; omega)).trans (getD_u8 (by omega))
        have h8 : bs.getD 1 0 ≠ 1 ∧ bs.getD 1 0 ≠ 2 := by omega
        obtain ⟨y, hy⟩ : ∃ y, bs.getD 1 0 = y := ⟨_, rfl⟩
        rw [hy] at d1 h8
        have hyb : (y != 1) = true := by simpa using h8.1
        have hyc : (y != 2) = true := by simpa using h8.2
        clear h1 hs1 hcx hy h80 h2 h3 hB1 h8 hba
        go_wp2_with fail
        go_meet
        exact ⟨by first | rfl | rw [decide_eq_true (by omega)], rfl⟩
    case rest =>
    obtain ⟨rfl, hcut⟩ := hcut
    obtain rfl : w1 = _ := hcut.symm
    clear h1 hs1 hB1 hcut h2 hcx h80
    go_wp2_with fail
    refine hba.mono ?_
    rintro e w2 ⟨rfl, hb2⟩
    have HX := hid (And.intro ((Eff.of_below (S := fun _ => False) hb2).blk HZ.out.1 (fun h => h)) (And.intro ((Eff.of_below (S := fun _ => False) hb2).blk HZ.out.2.1 (fun h => h)) (HZ.out.2.2.trans (hb2.mono HZ.out.2.2.size))))
    clear hb2 hba
    go_wp2_with (first | (refine wpList_store_agg rfl 64 _ _ rfl w.heap.size 0 rfl (frameL 0 0 0 0 0 false 0 0 0 none 0 0 none 0 0) rfl _ 64 HX.out.1 (by simp) rfl frame_info ?_; intro w98 hx98 he98 hsz98; have H98 : Hid (Blk w98 w.heap.size (frameL 0 0 0 0 0 false 0 0 0 none 0 0 none 0 0) 64 ∧ Eff (· = w.heap.size) w2 w98) := ⟨hx98, he98⟩; have Z98 := hid (he98.blk HX.out.2.1 (fun h => hwf h.symm)); clear hx98 he98 hsz98) | (refine wpList_store_agg rfl 35 _ _ rfl rf 0 rfl [.int .i64 107, .bool false, .int .i64 0] rfl _ 35 Z98.out (by simp) rfl fault_size ?_; intro w99 hx99 he99 hsz99; have H99 : Hid (Blk w99 rf [.int .i64 107, .bool false, .int .i64 0] 35 ∧ Eff (· = rf) w98 w99) := ⟨hx99, he99⟩; clear hx99 he99 hsz99))
    refine ret_two Tryd.results42 w.heap.size rf (frameL 0 0 0 0 0 false 0 0 0 none 0 0 none 0 0) [.int .i64 107, .bool false, .int .i64 0] 64 35 _ _ (by rfl) (by rfl) (H99.out.2.blk H98.out.1 hwf) H99.out.1 Tryd.underlying64 Tryd.underlying35 rfl rfl frame_info fault_size (by rfl) ?_
    rw [← HRR.out]
    exact readq_zero rfl ⟨rfl, rfl, rfl, rfl⟩ (H99.out.2.below (H98.out.2.below HX.out.2.2 HX.out.2.2.size (fun i hi h => by omega)) (Nat.le_trans HX.out.2.2.size H98.out.2.size) (fun i hi h => by omega))
  rw [if_neg h2] at hRR
  have hl2 : 2 ≤ ((bs.length : Int)) := by omega
  have hlp1 : 1 < ((bs.length : Int)) := by omega
  have hlen2 : 2 ≤ bs.length := by omega
  obtain ⟨kind, hkind⟩ : ∃ kind, bs.getD 1 0 = kind := ⟨_, rfl⟩
  have d1 : w1.cell? ⟨b0, o0 + 1, none⟩ = some (.int .u8 kind) := (hcx 1 (by rw [List.length_map]; omega)).trans ((getD_u8 (by omega)).trans (by rw [hkind]))
  rw [hkind] at hRR h2
  have hk12 : kind = 1 ∨ kind = 2 := by omega
  obtain ⟨X, hX⟩ : ∃ X : FrameP × RS, X = if kind = 1 then beatR bs (2, none) else tokR bs (2, none) := ⟨_, rfl⟩
  have hRX : endR bs X = R := by
    rw [← hRR, hX]
    by_cases h : kind = 1
    · rw [if_pos h, if_pos h]
    · rw [if_neg h, if_neg h]
  have HRX := hid hRX
  have HXK := hid hX
  clear hRR hRX hX
  have hkb : (kind != 1 && kind != 2) = false := by
    rcases hk12 with rfl | rfl <;> rfl
  have hx80 : ((80 : Int) != 80) = false := rfl
  clear h1 h2 hcx h80 hkb
  go_upto_region 3 with (fail)
  go_cut [33] (fun v wx => v = .bool false ∧ wx = w1)
  case first =>
    rcases hk12 with hk | hk
    · rw [hk] at d1
      have hne1 : ((1 : Int) != 1) = false := rfl
      clear hk hkind
      go_wp2_with fail
      go_meet
      exact ⟨by rw [decide_eq_false (by omega)], rfl⟩
    · rw [hk] at d1
      have hne1 : ((2 : Int) != 1) = true := rfl
      have hne2 : ((2 : Int) != 2) = false := rfl
      clear hk hkind
      go_wp2_with fail
      go_meet
      exact ⟨by rw [decide_eq_false (by omega)], rfl⟩
  case rest =>
  obtain ⟨rfl, hcut⟩ := hcut
  obtain rfl : w1 = _ := hcut.symm
  go_upto_region 7 with (fail)
  clear hx80 hl0 hlp hl1
  obtain ⟨w3, hw3⟩ : ∃ w3, w3 = w1.alloc (.cells #[.slice (some ⟨b0, o0, none⟩) bs.length c, .int .i64 2, .int .i64 0, .bool false, .int .i64 0] 104) := ⟨_, rfl⟩
  have hb3 : Below w1.heap.size w1 w3 := by rw [hw3]; exact (Below.refl _ _).alloc (Nat.le_refl _) _
  have q3 : Blk w3 w1.heap.size [.slice (some ⟨b0, o0, none⟩) bs.length c, .int .i64 2, .int .i64 0, .bool false, .int .i64 0] 104 := by rw [hw3]; exact Blk.new w1 _ _
  rw [← hw3]
  clear hw3
  have hsz1 := HZ.out.2.2.size
  obtain ⟨r, hr⟩ : ∃ r, r = w1.heap.size := ⟨_, rfl⟩
  have hB3 := HZ.out.2.2.trans (hb3.mono HZ.out.2.2.size)
  have hs3 := It2 hs1 hb3
  have d3 : w3.cell? ⟨b0, o0 + 1, none⟩ = some (.int .u8 kind) := (hb3.cell (p := ⟨b0, o0 + 1, none⟩) hbw).trans d1
  have HZ3 := hid (And.intro ((Eff.of_below (S := fun _ => False) hb3).blk HZ.out.1 (fun h => h)) ((Eff.of_below (S := fun _ => False) hb3).blk HZ.out.2.1 (fun h => h)))
  clear hb3 d0 d1 hs1 hB1
  rw [← hr] at q3 hbw hwf3 hsz1 ⊢
  clear hr
  have s3 : QSt w w3 r (some ⟨b0, o0, none⟩) c bs (2, none) := ⟨⟨q3, hs3, fun a ha => by cases ha; exact hbw, hBb, hlen2, by omega, fun e he => by cases he⟩, hB3⟩
  have hr3 : r < w3.heap.size := q3.lt
  have hb03 : b0 < w3.heap.size := by omega
  clear q3 hs3
  obtain ⟨ff, hff⟩ : ∃ ff, numS bs 0 15 (2, none) = ff := ⟨_, rfl⟩
  obtain ⟨ft, hft⟩ : ∃ ft, numS bs 0 15 ff.2 = ft := ⟨_, rfl⟩
  have hXF : Hid (X = if kind = 1 then beatR bs (2, none) else tokR bs (2, none)) := HXK
  have hwk : IntKind.i64.wrap kind = kind := by rw [IntKind.wrap_i64]; omega
  have d3d : w3.drew.cell? ⟨b0, o0 + 1, none⟩ = some (.int .u8 kind) := d3
  have s3d : QSt w w3.drew r (some ⟨b0, o0, none⟩) c bs (2, none) := s3.eff (Eff.of_below (S := fun _ => False) (Below.refl _ _).drew) (fun _ _ h => h) hsz1
  have hbr : b0 ≠ r := by omega
  have HB3 := hid hB3
  have HFF := hid (And.intro hff hft)
  have q1 : ∀ w', QSt w w' r (some ⟨b0, o0, none⟩) c bs (2, none) → Calls Tryd.prog 63 #[.pointer (some ⟨r, 0, none⟩), .int .i64 0, .int .i64 15] w' (GivesQS w w' r (some ⟨b0, o0, none⟩) c bs ff) := fun w' h => by rw [← hff]; exact numq_step 0 15 hsz1 h
  have q2 : ∀ w', QSt w w' r (some ⟨b0, o0, none⟩) c bs ff.2 → Calls Tryd.prog 63 #[.pointer (some ⟨r, 0, none⟩), .int .i64 0, .int .i64 15] w' (GivesQS w w' r (some ⟨b0, o0, none⟩) c bs ft) := fun w' h => by rw [← hft]; exact numq_step 0 15 hsz1 h
  have HK := hid hk12
  clear hff hft hB3 s3 d3 hk12 hkind
  go_cut [6] (fun v wx => ReadMid w w3 r (some ⟨b0, o0, none⟩) c bs kind ff.1 ft.1 ft.2 v wx)
  case first =>
    refine wp_region_held_drew (S := fun w' => w'.cell? ⟨b0, o0 + 1, none⟩ = some (.int .u8 kind)) (by kernel_rfl) ?_ (fun hHeld => ?_)
    · (try dsimp only); (first | exact d3d | exact d4 | exact d5 | exact dA | exact dB | exact dC | exact d9)
    refine held_take 0 ?_ rfl (by kernel_rfl) (by kernel_rfl) (by kernel_rfl) (fun _ _ _ h => h) (by rfl) ?_ hHeld ?_
    rotate_left
    · (intro w hSw; (try dsimp only at hSw); go_simp; try with_reducible rfl)
    try simp only [Act.put, List.setIfInBounds_toArray, List.set_cons_zero, List.set_cons_succ]
    refine held_take 1 ?_ rfl (by kernel_rfl) (by kernel_rfl) (by kernel_rfl) (fun _ _ _ h => h) (by rfl) ?_ hHeld ?_
    rotate_left
    · (intro w hSw; (try dsimp only at hSw); go_simp; try with_reducible rfl)
    try simp only [Act.put, List.setIfInBounds_toArray, List.set_cons_zero, List.set_cons_succ]
    refine held_take 2 ?_ rfl (by kernel_rfl) (by kernel_rfl) (by kernel_rfl) (fun _ _ _ h => h) (by rfl) ?_ hHeld ?_
    rotate_left
    · (intro w hSw; (try dsimp only at hSw); go_simp; try with_reducible rfl)
    try simp only [Act.put, List.setIfInBounds_toArray, List.set_cons_zero, List.set_cons_succ]
    refine held_take 3 ?_ rfl (by kernel_rfl) (by kernel_rfl) (by kernel_rfl) (fun _ _ _ h => h) (by rfl) ?_ hHeld ?_
    rotate_left
    · (intro w hSw; (try dsimp only at hSw); go_simp; try with_reducible rfl)
    try simp only [Act.put, List.setIfInBounds_toArray, List.set_cons_zero, List.set_cons_succ]
    refine held_take 4 ?_ rfl (by kernel_rfl) (by kernel_rfl) (by kernel_rfl) (fun _ _ _ h => h) (by rfl) ?_ hHeld ?_
    rotate_left
    · (intro w hSw; (try dsimp only at hSw); go_simp; try with_reducible rfl)
    try simp only [Act.put, List.setIfInBounds_toArray, List.set_cons_zero, List.set_cons_succ]
    refine held_take 5 ?_ rfl (by kernel_rfl) (by kernel_rfl) (by kernel_rfl) (fun _ _ _ h => h) (by rfl) ?_ hHeld ?_
    rotate_left
    · (intro w hSw; (try dsimp only at hSw); go_simp; try with_reducible rfl)
    try simp only [Act.put, List.setIfInBounds_toArray, List.set_cons_zero, List.set_cons_succ]
    refine held_take 7 ?_ rfl (by kernel_rfl) (by kernel_rfl) (by kernel_rfl) (fun _ _ _ h => h) (by rfl) ?_ hHeld ?_
    rotate_left
    · (intro w hSw; (try dsimp only at hSw); go_simp; try with_reducible rfl)
    try simp only [Act.put, List.setIfInBounds_toArray, List.set_cons_zero, List.set_cons_succ]
    refine held_take 8 ?_ rfl (by kernel_rfl) (by kernel_rfl) (by kernel_rfl) (fun _ _ _ h => h) (by rfl) ?_ hHeld ?_
    rotate_left
    · (intro w hSw; (try dsimp only at hSw); go_simp; try with_reducible rfl)
    try simp only [Act.put, List.setIfInBounds_toArray, List.set_cons_zero, List.set_cons_succ]
    refine held_two 6 11 rfl rfl (by kernel_rfl) (by rfl) (by rfl) (fun K hK => ?_) (fun K hK => ?_)
    · go_simp
      refine (q1 _ (by first | exact s3d | exact sA)).mono ?_
      rintro e w4 ⟨rfl, s4, t4⟩
      have u4 : Eff (· = r) w3 w4 := by first | exact ((Eff.refl _ w3).drew).step t4 (fun _ _ h => h) | exact uA.step t4 (fun _ _ h => h)
      have d4 := (u4.cell hb03 hbr).trans d3d
      try (have fA := t4.blk fA (fun h => by omega))
      refine hK.out _ _ ?_ (fun hHeld2 => ?_)
      · (try dsimp only); (first | exact d3d | exact d4 | exact d5 | exact dA | exact dB | exact dC | exact d9)
      clear hK K hHeld
      have hHeld := hHeld2
      clear hHeld2
      try simp only [Act.put, List.setIfInBounds_toArray, List.set_cons_zero, List.set_cons_succ]
      refine held_two 9 11 rfl rfl (by kernel_rfl) (by rfl) (by rfl) (fun K hK => ?_) (fun K hK => ?_)
      · go_simp
        refine (q2 _ (by first | exact s4 | exact sB)).mono ?_
        rintro e w5 ⟨rfl, s5, t5⟩
        have u5 : Eff (· = r) w3 w5 := by first | exact u4.step t5 (fun _ _ h => h) | exact uB.step t5 (fun _ _ h => h)
        have d5 := (u5.cell hb03 hbr).trans d3d
        try (have fA := t5.blk fA (fun h => by omega))
        refine hK.out _ _ ?_ (fun hHeld2 => ?_)
        · (try dsimp only); (first | exact d3d | exact d4 | exact d5 | exact dA | exact dB | exact dC | exact d9)
        clear hK K hHeld
        have hHeld := hHeld2
        clear hHeld2
        try simp only [Act.put, List.setIfInBounds_toArray, List.set_cons_zero, List.set_cons_succ]
        refine held_take 10 ?_ rfl (by kernel_rfl) (by kernel_rfl) (by kernel_rfl) (fun _ _ _ h => h) (by rfl) ?_ hHeld ?_
        rotate_left
        · (intro w hSw; (try dsimp only at hSw); go_simp; try with_reducible rfl)
        try simp only [Act.put, List.setIfInBounds_toArray, List.set_cons_zero, List.set_cons_succ]
        refine held_one 11 rfl (by kernel_rfl) (by rfl) (fun K hK => ?_)
        go_simp
        first | (have fA : Blk (w5.alloc (.cells (frameV 0 0 0 0 0 false 0 0 0 none 0 0 none 0 0) 64)) w5.heap.size (frameL 0 0 0 0 0 false 0 0 0 none 0 0 none 0 0) 64 := Blk.new w5 _ _) | (have fA : Blk (w4.alloc (.cells (frameV 0 0 0 0 0 false 0 0 0 none 0 0 none 0 0) 64)) w4.heap.size (frameL 0 0 0 0 0 false 0 0 0 none 0 0 none 0 0) 64 := Blk.new w4 _ _) | (have fA : Blk (w3.drew.alloc (.cells (frameV 0 0 0 0 0 false 0 0 0 none 0 0 none 0 0) 64)) w3.heap.size (frameL 0 0 0 0 0 false 0 0 0 none 0 0 none 0 0) 64 := Blk.new w3.drew _ _)
        first | (have sC := s5.alloc hsz1 (.cells (frameV 0 0 0 0 0 false 0 0 0 none 0 0 none 0 0) 64)) | (have sB := s4.alloc hsz1 (.cells (frameV 0 0 0 0 0 false 0 0 0 none 0 0 none 0 0) 64)) | (have sA := s3d.alloc hsz1 (.cells (frameV 0 0 0 0 0 false 0 0 0 none 0 0 none 0 0) 64))
        first | (have uC := u5.alloc (.cells (frameV 0 0 0 0 0 false 0 0 0 none 0 0 none 0 0) 64)) | (have uB := u4.alloc (.cells (frameV 0 0 0 0 0 false 0 0 0 none 0 0 none 0 0) 64)) | (have uA := ((Eff.refl (· = r) w3).drew).alloc (.cells (frameV 0 0 0 0 0 false 0 0 0 none 0 0 none 0 0) 64))
        first | (have dC := (uC.cell hb03 hbr).trans d3d) | (have dB := (uB.cell hb03 hbr).trans d3d) | (have dA := (uA.cell hb03 hbr).trans d3d)
        first | (have hTF : w3.heap.size ≤ w5.heap.size := u5.size) | (have hTF : w3.heap.size ≤ w4.heap.size := u4.size) | (have hTF : w3.heap.size ≤ w3.heap.size := Nat.le_refl _)
        refine hK.out _ _ ?_ (fun hHeld2 => ?_)
        · (try dsimp only); (first | exact d3d | exact d4 | exact d5 | exact dA | exact dB | exact dC | exact d9)
        clear hK K hHeld
        have hHeld := hHeld2
        clear hHeld2
        try simp only [Act.put, List.setIfInBounds_toArray, List.set_cons_zero, List.set_cons_succ]
        refine held_one 12 rfl (by kernel_rfl) (by rfl) (fun K hK => ?_)
        first | (refine wp_store_agg 64 _ _ rfl w5.heap.size 0 rfl (frameL kind ff.1 ft.1 0 0 false 0 0 0 none 0 0 none 0 0) rfl _ 64 fA (by simp) rfl frame_info ?_) | (refine wp_store_agg 64 _ _ rfl w4.heap.size 0 rfl (frameL kind ff.1 ft.1 0 0 false 0 0 0 none 0 0 none 0 0) rfl _ 64 fA (by simp) rfl frame_info ?_) | (refine wp_store_agg 64 _ _ rfl w3.heap.size 0 rfl (frameL kind ff.1 ft.1 0 0 false 0 0 0 none 0 0 none 0 0) rfl _ 64 fA (by simp) rfl frame_info ?_)
        intro w9 hx9 he9 hsz9
        have u9 : Eff (· = r) w3 w9 := by first | exact uC.step he9 (fun i hi h => by omega) | exact u5.step he9 (fun i hi h => by omega)
        have s9 : QSt w w9 r (some ⟨b0, o0, none⟩) c bs ft.2 := by first | exact sC.set (by omega) hsz1 he9 | exact s5.set (by omega) hsz1 he9
        have d9 := (u9.cell hb03 hbr).trans d3d
        refine hK.out _ _ ?_ (fun hHeld2 => ?_)
        · (try dsimp only); (first | exact d3d | exact d4 | exact d5 | exact dA | exact dB | exact dC | exact d9)
        clear hK K hHeld
        have hHeld := hHeld2
        clear hHeld2
        try simp only [Act.put, List.setIfInBounds_toArray, List.set_cons_zero, List.set_cons_succ]
        refine wpAnyH_done (by kernel_rfl) ?_ _
        clear hHeld
        go_wp2_with fail
        go_meet
        unfold ReadMid
        exact ⟨_, rfl, hTF, hx9, s9, u9⟩
      · go_simp
        first | (have fA : Blk (w5.alloc (.cells (frameV 0 0 0 0 0 false 0 0 0 none 0 0 none 0 0) 64)) w5.heap.size (frameL 0 0 0 0 0 false 0 0 0 none 0 0 none 0 0) 64 := Blk.new w5 _ _) | (have fA : Blk (w4.alloc (.cells (frameV 0 0 0 0 0 false 0 0 0 none 0 0 none 0 0) 64)) w4.heap.size (frameL 0 0 0 0 0 false 0 0 0 none 0 0 none 0 0) 64 := Blk.new w4 _ _) | (have fA : Blk (w3.drew.alloc (.cells (frameV 0 0 0 0 0 false 0 0 0 none 0 0 none 0 0) 64)) w3.heap.size (frameL 0 0 0 0 0 false 0 0 0 none 0 0 none 0 0) 64 := Blk.new w3.drew _ _)
        first | (have sC := s5.alloc hsz1 (.cells (frameV 0 0 0 0 0 false 0 0 0 none 0 0 none 0 0) 64)) | (have sB := s4.alloc hsz1 (.cells (frameV 0 0 0 0 0 false 0 0 0 none 0 0 none 0 0) 64)) | (have sA := s3d.alloc hsz1 (.cells (frameV 0 0 0 0 0 false 0 0 0 none 0 0 none 0 0) 64))
        first | (have uC := u5.alloc (.cells (frameV 0 0 0 0 0 false 0 0 0 none 0 0 none 0 0) 64)) | (have uB := u4.alloc (.cells (frameV 0 0 0 0 0 false 0 0 0 none 0 0 none 0 0) 64)) | (have uA := ((Eff.refl (· = r) w3).drew).alloc (.cells (frameV 0 0 0 0 0 false 0 0 0 none 0 0 none 0 0) 64))
        first | (have dC := (uC.cell hb03 hbr).trans d3d) | (have dB := (uB.cell hb03 hbr).trans d3d) | (have dA := (uA.cell hb03 hbr).trans d3d)
        first | (have hTF : w3.heap.size ≤ w5.heap.size := u5.size) | (have hTF : w3.heap.size ≤ w4.heap.size := u4.size) | (have hTF : w3.heap.size ≤ w3.heap.size := Nat.le_refl _)
        refine hK.out _ _ ?_ (fun hHeld2 => ?_)
        · (try dsimp only); (first | exact d3d | exact d4 | exact d5 | exact dA | exact dB | exact dC | exact d9)
        clear hK K hHeld
        have hHeld := hHeld2
        clear hHeld2
        try simp only [Act.put, List.setIfInBounds_toArray, List.set_cons_zero, List.set_cons_succ]
        refine held_one 9 rfl (by kernel_rfl) (by rfl) (fun K hK => ?_)
        go_simp
        refine (q2 _ (by first | exact s4 | exact sB)).mono ?_
        rintro e w5 ⟨rfl, s5, t5⟩
        have u5 : Eff (· = r) w3 w5 := by first | exact u4.step t5 (fun _ _ h => h) | exact uB.step t5 (fun _ _ h => h)
        have d5 := (u5.cell hb03 hbr).trans d3d
        try (have fA := t5.blk fA (fun h => by omega))
        refine hK.out _ _ ?_ (fun hHeld2 => ?_)
        · (try dsimp only); (first | exact d3d | exact d4 | exact d5 | exact dA | exact dB | exact dC | exact d9)
        clear hK K hHeld
        have hHeld := hHeld2
        clear hHeld2
        try simp only [Act.put, List.setIfInBounds_toArray, List.set_cons_zero, List.set_cons_succ]
        refine held_take 10 ?_ rfl (by kernel_rfl) (by kernel_rfl) (by kernel_rfl) (fun _ _ _ h => h) (by rfl) ?_ hHeld ?_
        rotate_left
        · (intro w hSw; (try dsimp only at hSw); go_simp; try with_reducible rfl)
        try simp only [Act.put, List.setIfInBounds_toArray, List.set_cons_zero, List.set_cons_succ]
        refine held_one 12 rfl (by kernel_rfl) (by rfl) (fun K hK => ?_)
        first | (refine wp_store_agg 64 _ _ rfl w5.heap.size 0 rfl (frameL kind ff.1 ft.1 0 0 false 0 0 0 none 0 0 none 0 0) rfl _ 64 fA (by simp) rfl frame_info ?_) | (refine wp_store_agg 64 _ _ rfl w4.heap.size 0 rfl (frameL kind ff.1 ft.1 0 0 false 0 0 0 none 0 0 none 0 0) rfl _ 64 fA (by simp) rfl frame_info ?_) | (refine wp_store_agg 64 _ _ rfl w3.heap.size 0 rfl (frameL kind ff.1 ft.1 0 0 false 0 0 0 none 0 0 none 0 0) rfl _ 64 fA (by simp) rfl frame_info ?_)
        intro w9 hx9 he9 hsz9
        have u9 : Eff (· = r) w3 w9 := by first | exact uC.step he9 (fun i hi h => by omega) | exact u5.step he9 (fun i hi h => by omega)
        have s9 : QSt w w9 r (some ⟨b0, o0, none⟩) c bs ft.2 := by first | exact sC.set (by omega) hsz1 he9 | exact s5.set (by omega) hsz1 he9
        have d9 := (u9.cell hb03 hbr).trans d3d
        refine hK.out _ _ ?_ (fun hHeld2 => ?_)
        · (try dsimp only); (first | exact d3d | exact d4 | exact d5 | exact dA | exact dB | exact dC | exact d9)
        clear hK K hHeld
        have hHeld := hHeld2
        clear hHeld2
        try simp only [Act.put, List.setIfInBounds_toArray, List.set_cons_zero, List.set_cons_succ]
        refine wpAnyH_done (by kernel_rfl) ?_ _
        clear hHeld
        go_wp2_with fail
        go_meet
        unfold ReadMid
        exact ⟨_, rfl, hTF, hx9, s9, u9⟩
    · go_simp
      first | (have fA : Blk (w5.alloc (.cells (frameV 0 0 0 0 0 false 0 0 0 none 0 0 none 0 0) 64)) w5.heap.size (frameL 0 0 0 0 0 false 0 0 0 none 0 0 none 0 0) 64 := Blk.new w5 _ _) | (have fA : Blk (w4.alloc (.cells (frameV 0 0 0 0 0 false 0 0 0 none 0 0 none 0 0) 64)) w4.heap.size (frameL 0 0 0 0 0 false 0 0 0 none 0 0 none 0 0) 64 := Blk.new w4 _ _) | (have fA : Blk (w3.drew.alloc (.cells (frameV 0 0 0 0 0 false 0 0 0 none 0 0 none 0 0) 64)) w3.heap.size (frameL 0 0 0 0 0 false 0 0 0 none 0 0 none 0 0) 64 := Blk.new w3.drew _ _)
      first | (have sC := s5.alloc hsz1 (.cells (frameV 0 0 0 0 0 false 0 0 0 none 0 0 none 0 0) 64)) | (have sB := s4.alloc hsz1 (.cells (frameV 0 0 0 0 0 false 0 0 0 none 0 0 none 0 0) 64)) | (have sA := s3d.alloc hsz1 (.cells (frameV 0 0 0 0 0 false 0 0 0 none 0 0 none 0 0) 64))
      first | (have uC := u5.alloc (.cells (frameV 0 0 0 0 0 false 0 0 0 none 0 0 none 0 0) 64)) | (have uB := u4.alloc (.cells (frameV 0 0 0 0 0 false 0 0 0 none 0 0 none 0 0) 64)) | (have uA := ((Eff.refl (· = r) w3).drew).alloc (.cells (frameV 0 0 0 0 0 false 0 0 0 none 0 0 none 0 0) 64))
      first | (have dC := (uC.cell hb03 hbr).trans d3d) | (have dB := (uB.cell hb03 hbr).trans d3d) | (have dA := (uA.cell hb03 hbr).trans d3d)
      first | (have hTF : w3.heap.size ≤ w5.heap.size := u5.size) | (have hTF : w3.heap.size ≤ w4.heap.size := u4.size) | (have hTF : w3.heap.size ≤ w3.heap.size := Nat.le_refl _)
      refine hK.out _ _ ?_ (fun hHeld2 => ?_)
      · (try dsimp only); (first | exact d3d | exact d4 | exact d5 | exact dA | exact dB | exact dC | exact d9)
      clear hK K hHeld
      have hHeld := hHeld2
      clear hHeld2
      try simp only [Act.put, List.setIfInBounds_toArray, List.set_cons_zero, List.set_cons_succ]
      refine held_one 6 rfl (by kernel_rfl) (by rfl) (fun K hK => ?_)
      go_simp
      refine (q1 _ (by first | exact s3d | exact sA)).mono ?_
      rintro e w4 ⟨rfl, s4, t4⟩
      have u4 : Eff (· = r) w3 w4 := by first | exact ((Eff.refl _ w3).drew).step t4 (fun _ _ h => h) | exact uA.step t4 (fun _ _ h => h)
      have d4 := (u4.cell hb03 hbr).trans d3d
      try (have fA := t4.blk fA (fun h => by omega))
      refine hK.out _ _ ?_ (fun hHeld2 => ?_)
      · (try dsimp only); (first | exact d3d | exact d4 | exact d5 | exact dA | exact dB | exact dC | exact d9)
      clear hK K hHeld
      have hHeld := hHeld2
      clear hHeld2
      try simp only [Act.put, List.setIfInBounds_toArray, List.set_cons_zero, List.set_cons_succ]
      refine held_one 9 rfl (by kernel_rfl) (by rfl) (fun K hK => ?_)
      go_simp
      refine (q2 _ (by first | exact s4 | exact sB)).mono ?_
      rintro e w5 ⟨rfl, s5, t5⟩
      have u5 : Eff (· = r) w3 w5 := by first | exact u4.step t5 (fun _ _ h => h) | exact uB.step t5 (fun _ _ h => h)
      have d5 := (u5.cell hb03 hbr).trans d3d
      try (have fA := t5.blk fA (fun h => by omega))
      refine hK.out _ _ ?_ (fun hHeld2 => ?_)
      · (try dsimp only); (first | exact d3d | exact d4 | exact d5 | exact dA | exact dB | exact dC | exact d9)
      clear hK K hHeld
      have hHeld := hHeld2
      clear hHeld2
      try simp only [Act.put, List.setIfInBounds_toArray, List.set_cons_zero, List.set_cons_succ]
      refine held_take 10 ?_ rfl (by kernel_rfl) (by kernel_rfl) (by kernel_rfl) (fun _ _ _ h => h) (by rfl) ?_ hHeld ?_
      rotate_left
      · (intro w hSw; (try dsimp only at hSw); go_simp; try with_reducible rfl)
      try simp only [Act.put, List.setIfInBounds_toArray, List.set_cons_zero, List.set_cons_succ]
      refine held_one 12 rfl (by kernel_rfl) (by rfl) (fun K hK => ?_)
      first | (refine wp_store_agg 64 _ _ rfl w5.heap.size 0 rfl (frameL kind ff.1 ft.1 0 0 false 0 0 0 none 0 0 none 0 0) rfl _ 64 fA (by simp) rfl frame_info ?_) | (refine wp_store_agg 64 _ _ rfl w4.heap.size 0 rfl (frameL kind ff.1 ft.1 0 0 false 0 0 0 none 0 0 none 0 0) rfl _ 64 fA (by simp) rfl frame_info ?_) | (refine wp_store_agg 64 _ _ rfl w3.heap.size 0 rfl (frameL kind ff.1 ft.1 0 0 false 0 0 0 none 0 0 none 0 0) rfl _ 64 fA (by simp) rfl frame_info ?_)
      intro w9 hx9 he9 hsz9
      have u9 : Eff (· = r) w3 w9 := by first | exact uC.step he9 (fun i hi h => by omega) | exact u5.step he9 (fun i hi h => by omega)
      have s9 : QSt w w9 r (some ⟨b0, o0, none⟩) c bs ft.2 := by first | exact sC.set (by omega) hsz1 he9 | exact s5.set (by omega) hsz1 he9
      have d9 := (u9.cell hb03 hbr).trans d3d
      refine hK.out _ _ ?_ (fun hHeld2 => ?_)
      · (try dsimp only); (first | exact d3d | exact d4 | exact d5 | exact dA | exact dB | exact dC | exact d9)
      clear hK K hHeld
      have hHeld := hHeld2
      clear hHeld2
      try simp only [Act.put, List.setIfInBounds_toArray, List.set_cons_zero, List.set_cons_succ]
      refine wpAnyH_done (by kernel_rfl) ?_ _
      clear hHeld
      go_wp2_with fail
      go_meet
      unfold ReadMid
      exact ⟨_, rfl, hTF, hx9, s9, u9⟩
  case rest =>
  unfold ReadMid at hcut
  obtain ⟨tf, rfl, htf, f1, s1, e1⟩ := hcut
  have hrtf : r < tf := by omega
  have c0 : wc.cell? ⟨tf, 0, none⟩ = some (.int .i64 kind) := f1.cell 0
  have u1 : Eff (fun q => q = r ∨ q = tf) w3 wc := e1.mono (fun i _ h => .inl h)
  clear e1 q1 q2 d3d s3d hwk
  go_upto_if 52 with (fail)
  clear c0
  go_cut [] (fun wx => ReadEnd w w3 r tf (some ⟨b0, o0, none⟩) c bs X wx)
  case first =>
    by_cases hk1 : kind = 1
    case pos =>
      have hkb : ((kind : Int) == 1) = true := by rw [beq_iff_eq]; exact hk1
      obtain ⟨fl, hfl⟩ : ∃ fl, numS bs 0 281474976710655 ft.2 = fl := ⟨_, rfl⟩
      obtain ⟨fs, hfs⟩ : ∃ fs, numS bs 0 281474976710655 fl.2 = fs := ⟨_, rfl⟩
      obtain ⟨fo, hfo⟩ : ∃ fo, numS bs 0 1 fs.2 = fo := ⟨_, rfl⟩
      have HX1 : Hid (X = ((kind, ff.1, ft.1, fl.1, fs.1, fo.1 == 1, 0, 0, 0, [], []), fo.2)) := by
        rw [Hid, hXF.out, if_pos hk1, beatR, hk1]
        simp only [HFF.out.1, HFF.out.2, hfl, hfs, hfo]
      clear hk1
      have q3 := numq_step 0 281474976710655 hsz1 s1
      rw [hfl] at q3
      go_wp2_with fail
      refine q3.mono ?_
      rintro e w4 ⟨rfl, s4, t4⟩
      have f4 := t4.blk f1 (fun h => by omega)
      have cc : w4.cell? ⟨tf, 3, none⟩ = some (.int .i64 0) := f4.cell 3
      have hfz : ∀ o, w4.frozen? ⟨tf, o, none⟩ = false := f4.frozen
      have t5 : Eff (· = tf) w4 (w4.setCell ⟨tf, 3, none⟩ (.int .i64 fl.1)) := (Eff.one tf w4).set 3 _
      have f5 : Blk (w4.setCell ⟨tf, 3, none⟩ (.int .i64 fl.1)) tf (frameL kind ff.1 ft.1 fl.1 0 false 0 0 0 none 0 0 none 0 0) 64 := f4.set 3 _
      have s5 := s4.set hrtf hsz1 t5
      have u5 := (u1.step t4 (fun i _ h => .inl h)).step t5 (fun i _ h => .inr h)
      clear q3 s1 f1 u1 t4 s4 f4 t5
      go_upto_region 10 with (fail)
      generalize w4.setCell ⟨tf, 3, none⟩ (.int .i64 fl.1) = w5 at *
      clear cc hfz
      have q3 := numq_step 0 281474976710655 hsz1 s5
      rw [hfs] at q3
      go_wp2_with fail
      refine q3.mono ?_
      rintro e w6 ⟨rfl, s6, t6⟩
      have f6 := t6.blk f5 (fun h => by omega)
      have cc : w6.cell? ⟨tf, 4, none⟩ = some (.int .i64 0) := f6.cell 4
      have hfz : ∀ o, w6.frozen? ⟨tf, o, none⟩ = false := f6.frozen
      have t7 : Eff (· = tf) w6 (w6.setCell ⟨tf, 4, none⟩ (.int .i64 fs.1)) := (Eff.one tf w6).set 4 _
      have f7 : Blk (w6.setCell ⟨tf, 4, none⟩ (.int .i64 fs.1)) tf (frameL kind ff.1 ft.1 fl.1 fs.1 false 0 0 0 none 0 0 none 0 0) 64 := f6.set 4 _
      have s7 := s6.set hrtf hsz1 t7
      have u7 := (u5.step t6 (fun i _ h => .inl h)).step t7 (fun i _ h => .inr h)
      clear q3 s5 f5 u5 t6 s6 f6 t7
      go_upto_region 11 with (fail)
      generalize w6.setCell ⟨tf, 4, none⟩ (.int .i64 fs.1) = w7 at *
      clear cc hfz
      have q3 := boolq_step hsz1 s7
      rw [hfo] at q3
      go_wp2_with fail
      refine q3.mono ?_
      rintro e w8 ⟨rfl, s8, t8⟩
      have f8 := t8.blk f7 (fun h => by omega)
      have cc : w8.cell? ⟨tf, 5, none⟩ = some (.bool false) := f8.cell 5
      have hfz : ∀ o, w8.frozen? ⟨tf, o, none⟩ = false := f8.frozen
      have t9 : Eff (· = tf) w8 (w8.setCell ⟨tf, 5, none⟩ (.bool (fo.1 == 1))) := (Eff.one tf w8).set 5 _
      have f9 : Blk (w8.setCell ⟨tf, 5, none⟩ (.bool (fo.1 == 1))) tf (frameL kind ff.1 ft.1 fl.1 fs.1 (fo.1 == 1) 0 0 0 none 0 0 none 0 0) 64 := f8.set 5 _
      have s9 := s8.set hrtf hsz1 t9
      have u9 := (u7.step t8 (fun i _ h => .inl h)).step t9 (fun i _ h => .inr h)
      have HEND := hid (And.intro f9 (And.intro s9 u9))
      clear q3 s7 f7 u7 t8 s8 f8 t9 f9 s9 u9
      go_wp2_with fail
      go_meet
      unfold ReadEnd
      rw [HX1.out]
      exact ⟨⟨kind, ff.1, ft.1, fl.1, fs.1, fo.1 == 1, 0, 0, 0, none, [], 0, none, [], 0⟩, HEND.out.1, ring_nil _, HEND.out.2.1, fun _ => rfl, HEND.out.2.2, fun q hq => by
        rcases hq with hq | hq | ⟨y, hy, hq⟩
        · cases hq
        · cases hq
        · cases hy⟩
    case neg =>
      have hkb : ((kind : Int) == 1) = false := by rw [beq_eq_false_iff_ne]; exact hk1
      obtain ⟨Y, hY⟩ : ∃ Y, ringR bs ft.2 = Y := ⟨_, rfl⟩
      have HX1 : Hid (X = ((2, ff.1, ft.1, 0, 0, false, Y.1), Y.2)) := by
        rw [Hid, hXF.out, if_neg hk1, tokR]
        simp only [HFF.out.1, HFF.out.2, hY]
      have HK2 : Hid (kind = 2) := by have := HK.out; show kind = 2; omega
      clear hk1
      have hrw : r < wc.heap.size := Nat.lt_trans hrtf f1.lt
      have q3 := refRing_any wc hsz1 hrw s1
      rw [hY] at q3
      have hw3c := u1.size
      go_wp2_with fail
      refine q3.mono ?_
      rintro e w4 ⟨a, b, d, MA, mc, ms, EA, es, ec, rfl, hpl, hring, s4, t4, hfresh⟩
      have f4 := t4.blk f1 (fun h => by omega)
      have htfw : tf < wc.heap.size := f1.lt
      have htk : RingOff MA EA es tf := fun q hq h => by have := hfresh q hq; omega
      have HS4 := hid (And.intro f4 (And.intro s4 (And.intro hring (And.intro (u1.step t4 (fun i _ h => Or.inl h)) (And.intro hfresh hpl)))))
      clear q3 f4 s4 hring t4 u1 f1 s1 hfresh hpl
      go_wp2_with (refine wpList_store_agg rfl 53 _ _ rfl tf 6 rfl (ringL a b d MA ms.length mc EA es.length ec) rfl _ 64 HS4.out.1 (by simp) rfl ring_info ?_; intro w5 hx5 he5 hsz5; have H5 := hid (And.intro hx5 he5); clear hx5 he5 hsz5)
      go_meet
      unfold ReadEnd
      rw [HX1.out]
      obtain ⟨f4, s4, hring, u4, hfresh, hpl⟩ := HS4.out
      exact ⟨⟨kind, ff.1, ft.1, 0, 0, false, a, b, d, MA, ms, mc, EA, es, ec⟩, H5.out.1, ring_keep hring H5.out.2 htk, s4.set hrtf hsz1 H5.out.2, fun h => by show (kind, ff.1, ft.1, 0, 0, false, a, b, d, ms, es.map EntL.pl) = _; rw [HK2.out, ← hpl h], u4.step H5.out.2 (fun i _ h => .inr h), fun q hq => Nat.le_trans hw3c (hfresh q hq)⟩
  case rest =>
  clear f1 s1 u1
  unfold ReadEnd at hcut
  obtain ⟨g, fG, rG, sG, hpl, eG, hfresh⟩ := hcut
  have v1 := eG.blk HZ3.out.1 (fun h => by rcases h with h | h <;> omega)
  have v2 := eG.blk HZ3.out.2 (fun h => by rcases h with h | h <;> omega)
  have BG : Below w.heap.size w wc := eG.below HB3.out HB3.out.size (fun i hi h => by rcases h with h | h <;> omega)
  have htf0 : w.heap.size < tf := by omega
  have hrf3 : rf < w3.heap.size := HZ3.out.2.lt
  have hoff0 : RingOff g.MA g.EA g.es w.heap.size := fun q hq h => by have := hfresh q hq; have := HB3.out.size; omega
  have hofff : RingOff g.MA g.EA g.es rf := fun q hq h => by have := hfresh q hq; omega
  have HOFF := hid (And.intro hoff0 hofff)
  clear hXF HXK HFF HK eG hfresh hoff0 hofff
  obtain ⟨xp, sp, so⟩ := X
  simp only at sG hpl
  cases so with
  | some ep =>
    obtain ⟨ec, eq⟩ := ep
    have hok := okq_no sG (by simp)
    have hq2 : wc.drew.cell? ⟨r, 2, none⟩ = some (.int .i64 ec) := sG.rd.blk.cell 2
    have hq3 : wc.drew.cell? ⟨r, 3, none⟩ = some (.bool true) := sG.rd.blk.cell 3
    have hq4 : wc.drew.cell? ⟨r, 4, none⟩ = some (.int .i64 eq) := sG.rd.blk.cell 4
    have hrwc : r < wc.heap.size := sG.rd.blk.lt
    have HX := hid (And.intro v1.drew (And.intro v2.drew BG.drew))
    clear fG rG sG hpl v1 v2 BG
    go_wp2_with fail
    refine hok.mono ?_
    rintro e w' ⟨rfl, rfl⟩
    clear hok
    go_wp2_with fail
    refine wp_region_held_drew (S := fun w' => w'.cell? ⟨r, 2, none⟩ = some (.int .i64 ec) ∧ w'.cell? ⟨r, 3, none⟩ = some (.bool true) ∧ w'.cell? ⟨r, 4, none⟩ = some (.int .i64 eq)) (by kernel_rfl) ?_ (fun hHeld => ?_)
    · (try dsimp only); (first | exact ⟨hq2, hq3, hq4⟩ | exact k98 | exact k99)
    refine held_take 0 ?_ rfl (by kernel_rfl) (by kernel_rfl) (by kernel_rfl) (fun _ _ _ h => h) (by rfl) ?_ hHeld ?_
    rotate_left
    · (intro w hSw; (try dsimp only at hSw); go_simp; try with_reducible rfl)
    try simp only [Act.put, List.setIfInBounds_toArray, List.set_cons_zero, List.set_cons_succ]
    refine held_take 1 ?_ rfl (by kernel_rfl) (by kernel_rfl) (by kernel_rfl) (fun _ _ _ h => h) (by rfl) ?_ hHeld ?_
    rotate_left
    · (intro w hSw; (try dsimp only at hSw); go_simp; try with_reducible rfl)
    try simp only [Act.put, List.setIfInBounds_toArray, List.set_cons_zero, List.set_cons_succ]
    refine held_take 2 ?_ rfl (by kernel_rfl) (by kernel_rfl) (by kernel_rfl) (fun _ _ _ h => h) (by rfl) ?_ hHeld ?_
    rotate_left
    · (intro w hSw; (try dsimp only at hSw); go_simp; try with_reducible rfl)
    try simp only [Act.put, List.setIfInBounds_toArray, List.set_cons_zero, List.set_cons_succ]
    refine held_take 3 ?_ rfl (by kernel_rfl) (by kernel_rfl) (by kernel_rfl) (fun _ _ _ h => h) (by rfl) ?_ hHeld ?_
    rotate_left
    · (intro w hSw; (try dsimp only at hSw); go_simp; try with_reducible rfl)
    try simp only [Act.put, List.setIfInBounds_toArray, List.set_cons_zero, List.set_cons_succ]
    refine held_take 4 ?_ rfl (by kernel_rfl) (by kernel_rfl) (by kernel_rfl) (fun _ _ _ h => h) (by rfl) ?_ hHeld ?_
    rotate_left
    · (intro w hSw; (try dsimp only at hSw); go_simp; try with_reducible rfl)
    try simp only [Act.put, List.setIfInBounds_toArray, List.set_cons_zero, List.set_cons_succ]
    refine held_one 5 rfl (by kernel_rfl) (by rfl) (fun K hK => ?_)
    refine wp_store_agg 64 _ _ rfl w.heap.size 0 rfl (frameL 0 0 0 0 0 false 0 0 0 none 0 0 none 0 0) rfl _ 64 HX.out.1 (by simp) rfl frame_info ?_
    intro w98 hx98 he98 hsz98
    have k98 := And.intro ((he98.cell (show r < wc.heap.size from hrwc) (fun h => by omega)).trans hq2) (And.intro ((he98.cell (show r < wc.heap.size from hrwc) (fun h => by omega)).trans hq3) ((he98.cell (show r < wc.heap.size from hrwc) (fun h => by omega)).trans hq4))
    have hr98 : r < w98.heap.size := by have : wc.drew.heap.size = wc.heap.size := rfl; omega
    have z98 := he98.blk HX.out.2.1 (fun h => hwf h.symm)
    have b98 := he98.below HX.out.2.2 HX.out.2.2.size (fun i hi h => by omega)
    refine hK.out _ _ ?_ (fun hHeld2 => ?_)
    · (try dsimp only); (first | exact ⟨hq2, hq3, hq4⟩ | exact k98 | exact k99)
    clear hK K hHeld
    have hHeld := hHeld2
    clear hHeld2
    try simp only [Act.put, List.setIfInBounds_toArray, List.set_cons_zero, List.set_cons_succ]
    refine held_one 6 rfl (by kernel_rfl) (by rfl) (fun K hK => ?_)
    refine wp_store_agg 35 _ _ rfl rf 0 rfl [.int .i64 ec, .bool true, .int .i64 eq] rfl _ 35 z98 (by simp) rfl fault_size ?_
    intro w99 hx99 he99 hsz99
    have k99 := And.intro ((he99.cell hr98 (fun h => by omega)).trans k98.1) (And.intro ((he99.cell hr98 (fun h => by omega)).trans k98.2.1) ((he99.cell hr98 (fun h => by omega)).trans k98.2.2))
    have H99 := hid (And.intro (he99.blk hx98 hwf) (And.intro hx99 (he99.below b98 b98.size (fun i hi h => by omega))))
    clear hx98 he98 hsz98 z98 b98 hx99 he99 hsz99
    refine hK.out _ _ ?_ (fun hHeld2 => ?_)
    · (try dsimp only); (first | exact ⟨hq2, hq3, hq4⟩ | exact k98 | exact k99)
    clear hK K hHeld
    have hHeld := hHeld2
    clear hHeld2
    try simp only [Act.put, List.setIfInBounds_toArray, List.set_cons_zero, List.set_cons_succ]
    refine wpAnyH_done (by kernel_rfl) ?_ _
    clear hHeld
    go_wp2_with fail
    refine ret_two Tryd.results42 w.heap.size rf (frameL 0 0 0 0 0 false 0 0 0 none 0 0 none 0 0) [.int .i64 ec, .bool true, .int .i64 eq] 64 35 _ _ (by rfl) (by rfl) H99.out.1 H99.out.2.1 Tryd.underlying64 Tryd.underlying35 rfl rfl frame_info fault_size (by rfl) ?_
    rw [← HRX.out]
    exact readq_zero rfl ⟨rfl, rfl, rfl, rfl⟩ H99.out.2.2
  | none =>
  have hok := okq_yes sG rfl
  have hle := refLeft_any sG.rd
  have hpl := hpl rfl
  subst hpl
  have HW := hid (And.intro fG (And.intro rG (And.intro v1 (And.intro v2 BG))))
  clear fG rG sG v1 v2 BG
  go_wp2_with fail
  refine hok.mono ?_
  rintro e w' ⟨rfl, rfl⟩
  clear hok
  go_wp2_with fail
  refine hle.mono ?_
  rintro e w' ⟨rfl, dq, rfl⟩
  clear hle
  have hbd := below_drewN (Below.refl wc.heap.size wc) dq
  have HV := hid (And.intro ((Eff.of_below (S := fun _ => False) hbd).blk HW.out.1 (fun h => h)) (And.intro (HW.out.2.1.on hbd) (And.intro ((Eff.of_below (S := fun _ => False) hbd).blk HW.out.2.2.1 (fun h => h)) (And.intro ((Eff.of_below (S := fun _ => False) hbd).blk HW.out.2.2.2.1 (fun h => h)) (HW.out.2.2.2.2.trans (hbd.mono HW.out.2.2.2.2.size))))))
  clear hbd HW
  generalize wc.drewN dq = w50 at *
  by_cases hlt : sp < bs.length
  case pos =>
    have hlt' : (0 : Int) < bs.length - sp := by omega
    have HRR : Hid (RF.bare 102 = R) := by rw [Hid, ← HRX.out]; unfold endR; simp only; rw [if_pos hlt]
    have hba := bare_any 102 w50
    clear hlt
    go_wp2_with fail
    refine hba.mono ?_
    rintro e w51 ⟨rfl, hb2⟩
    have HX := hid (And.intro ((Eff.of_below (S := fun _ => False) hb2).blk HV.out.2.2.1 (fun h => h)) (And.intro ((Eff.of_below (S := fun _ => False) hb2).blk HV.out.2.2.2.1 (fun h => h)) (HV.out.2.2.2.2.trans (hb2.mono HV.out.2.2.2.2.size))))
    clear hb2 hba
    go_wp2_with (first | (refine wpList_store_agg rfl 64 _ _ rfl w.heap.size 0 rfl (frameL 0 0 0 0 0 false 0 0 0 none 0 0 none 0 0) rfl _ 64 HX.out.1 (by simp) rfl frame_info ?_; intro w98 hx98 he98 hsz98; have H98 : Hid (Blk w98 w.heap.size (frameL 0 0 0 0 0 false 0 0 0 none 0 0 none 0 0) 64 ∧ Eff (· = w.heap.size) w51 w98) := ⟨hx98, he98⟩; have Z98 := hid (he98.blk HX.out.2.1 (fun h => hwf h.symm)); clear hx98 he98 hsz98) | (refine wpList_store_agg rfl 35 _ _ rfl rf 0 rfl [.int .i64 102, .bool false, .int .i64 0] rfl _ 35 Z98.out (by simp) rfl fault_size ?_; intro w99 hx99 he99 hsz99; have H99 : Hid (Blk w99 rf [.int .i64 102, .bool false, .int .i64 0] 35 ∧ Eff (· = rf) w98 w99) := ⟨hx99, he99⟩; clear hx99 he99 hsz99))
    refine ret_two Tryd.results42 w.heap.size rf (frameL 0 0 0 0 0 false 0 0 0 none 0 0 none 0 0) [.int .i64 102, .bool false, .int .i64 0] 64 35 _ _ (by rfl) (by rfl) (H99.out.2.blk H98.out.1 hwf) H99.out.1 Tryd.underlying64 Tryd.underlying35 rfl rfl frame_info fault_size (by rfl) ?_
    rw [← HRR.out]
    exact readq_zero rfl ⟨rfl, rfl, rfl, rfl⟩ (H99.out.2.below (H98.out.2.below HX.out.2.2 HX.out.2.2.size (fun i hi h => by omega)) (Nat.le_trans HX.out.2.2.size H98.out.2.size) (fun i hi h => by omega))
  case neg =>
  have hlt' : ¬ (0 : Int) < bs.length - sp := by omega
  obtain ⟨E, hEq⟩ : ∃ E, g.E = E := ⟨_, rfl⟩
  have hval := refValidF_any g w50 HV.out.2.1
  rw [hEq] at hval
  obtain ⟨P, hP⟩ : ∃ P, g.pl = P := ⟨_, rfl⟩
  have HRX2 : Hid (R = if E ≠ 0 then RF.bare E else RF.ok P) := by
    rw [Hid, ← HRX.out]
    unfold endR
    simp only
    rw [if_neg hlt, frameEP_pl, ← hEq, ← hP]
  have HP := hid hP
  clear hP
  clear hEq hlt
  obtain ⟨gk, gfr, gtt, gli, gse, gout, gco, gfo, gho, gMA, gms, gmc, gEA, ges, gec⟩ := g
  simp only [FrL.val] at hval
  have c0 : w50.cell? ⟨tf, 0, none⟩ = some (.int .i64 gk) := HV.out.1.cell 0
  have c1 : w50.cell? ⟨tf, 1, none⟩ = some (.int .i64 gfr) := HV.out.1.cell 1
  have c2 : w50.cell? ⟨tf, 2, none⟩ = some (.int .i64 gtt) := HV.out.1.cell 2
  have c3 : w50.cell? ⟨tf, 3, none⟩ = some (.int .i64 gli) := HV.out.1.cell 3
  have c4 : w50.cell? ⟨tf, 4, none⟩ = some (.int .i64 gse) := HV.out.1.cell 4
  have c5 : w50.cell? ⟨tf, 5, none⟩ = some (.bool gout) := HV.out.1.cell 5
  have c6 : w50.cell? ⟨tf, 6, none⟩ = some (.int .i64 gco) := HV.out.1.cell 6
  have c7 : w50.cell? ⟨tf, 7, none⟩ = some (.int .i64 gfo) := HV.out.1.cell 7
  have c8 : w50.cell? ⟨tf, 8, none⟩ = some (.int .i64 gho) := HV.out.1.cell 8
  have c9 : w50.cell? ⟨tf, 9, none⟩ = some (.slice gMA gms.length gmc) := HV.out.1.cell 9
  have c10 : w50.cell? ⟨tf, 10, none⟩ = some (.slice gEA ges.length gec) := HV.out.1.cell 10
  go_wp2_with fail
  refine hval.mono ?_
  rintro e w51 ⟨rfl, hb51⟩
  have HU := hid (And.intro ((Eff.of_below (S := fun _ => False) hb51).blk HV.out.1 (fun h => h)) (And.intro (HV.out.2.1.on hb51) (And.intro ((Eff.of_below (S := fun _ => False) hb51).blk HV.out.2.2.1 (fun h => h)) (And.intro ((Eff.of_below (S := fun _ => False) hb51).blk HV.out.2.2.2.1 (fun h => h)) (HV.out.2.2.2.2.trans (hb51.mono HV.out.2.2.2.2.size))))))
  clear hb51 hval c0 c1 c2 c3 c4 c5 c6 c7 c8 c9 c10 HV
  by_cases hE0 : E = 0
  case neg =>
    have hEb : (E != 0) = true := by simpa using hE0
    have hba := bare_any E w51
    have HRR : Hid (RF.bare E = R) := by rw [Hid, HRX2.out, if_pos hE0]
    clear hE0
    go_wp2_with fail
    refine hba.mono ?_
    rintro e w52 ⟨rfl, hb2⟩
    have HX := hid (And.intro ((Eff.of_below (S := fun _ => False) hb2).blk HU.out.2.2.1 (fun h => h)) (And.intro ((Eff.of_below (S := fun _ => False) hb2).blk HU.out.2.2.2.1 (fun h => h)) (HU.out.2.2.2.2.trans (hb2.mono HU.out.2.2.2.2.size))))
    clear hb2 hba
    go_wp2_with (first | (refine wpList_store_agg rfl 64 _ _ rfl w.heap.size 0 rfl (frameL 0 0 0 0 0 false 0 0 0 none 0 0 none 0 0) rfl _ 64 HX.out.1 (by simp) rfl frame_info ?_; intro w98 hx98 he98 hsz98; have H98 : Hid (Blk w98 w.heap.size (frameL 0 0 0 0 0 false 0 0 0 none 0 0 none 0 0) 64 ∧ Eff (· = w.heap.size) w52 w98) := ⟨hx98, he98⟩; have Z98 := hid (he98.blk HX.out.2.1 (fun h => hwf h.symm)); clear hx98 he98 hsz98) | (refine wpList_store_agg rfl 35 _ _ rfl rf 0 rfl [.int .i64 E, .bool false, .int .i64 0] rfl _ 35 Z98.out (by simp) rfl fault_size ?_; intro w99 hx99 he99 hsz99; have H99 : Hid (Blk w99 rf [.int .i64 E, .bool false, .int .i64 0] 35 ∧ Eff (· = rf) w98 w99) := ⟨hx99, he99⟩; clear hx99 he99 hsz99))
    refine ret_two Tryd.results42 w.heap.size rf (frameL 0 0 0 0 0 false 0 0 0 none 0 0 none 0 0) [.int .i64 E, .bool false, .int .i64 0] 64 35 _ _ (by rfl) (by rfl) (H99.out.2.blk H98.out.1 hwf) H99.out.1 Tryd.underlying64 Tryd.underlying35 rfl rfl frame_info fault_size (by rfl) ?_
    rw [← HRR.out]
    exact readq_zero rfl ⟨rfl, rfl, rfl, rfl⟩ (H99.out.2.below (H98.out.2.below HX.out.2.2 HX.out.2.2.size (fun i hi h => by omega)) (Nat.le_trans HX.out.2.2.size H98.out.2.size) (fun i hi h => by omega))
  case pos =>
  subst hE0
  have HRR : Hid (RF.ok P = R) := by rw [Hid, HRX2.out, if_neg (by simp)]
  clear HRX2 HRX
  go_upto_region 20 with (fail)
  have d0 : w51.drew.cell? ⟨tf, 0, none⟩ = some (.int .i64 gk) := HU.out.1.cell 0
  have d1 : w51.drew.cell? ⟨tf, 1, none⟩ = some (.int .i64 gfr) := HU.out.1.cell 1
  have d2 : w51.drew.cell? ⟨tf, 2, none⟩ = some (.int .i64 gtt) := HU.out.1.cell 2
  have d3 : w51.drew.cell? ⟨tf, 3, none⟩ = some (.int .i64 gli) := HU.out.1.cell 3
  have d4 : w51.drew.cell? ⟨tf, 4, none⟩ = some (.int .i64 gse) := HU.out.1.cell 4
  have d5 : w51.drew.cell? ⟨tf, 5, none⟩ = some (.bool gout) := HU.out.1.cell 5
  have d6 : w51.drew.cell? ⟨tf, 6, none⟩ = some (.int .i64 gco) := HU.out.1.cell 6
  have d7 : w51.drew.cell? ⟨tf, 7, none⟩ = some (.int .i64 gfo) := HU.out.1.cell 7
  have d8 : w51.drew.cell? ⟨tf, 8, none⟩ = some (.int .i64 gho) := HU.out.1.cell 8
  have d9 : w51.drew.cell? ⟨tf, 9, none⟩ = some (.slice gMA gms.length gmc) := HU.out.1.cell 9
  have d10 : w51.drew.cell? ⟨tf, 10, none⟩ = some (.slice gEA ges.length gec) := HU.out.1.cell 10
  have HU2 := hid (And.intro HU.out.1.drew (And.intro HU.out.2.2.1.drew (And.intro HU.out.2.2.2.1.drew HU.out.2.2.2.2.drew)))
  have HR1 := hid (HU.out.2.1.on (Below.refl _ _).drew)
  refine wp_region_any (by kernel_rfl) ?_
  change wpAny _ _ _ _ _ _ _ (World.drew _)
  refine any_two 0 1 rfl rfl (by kernel_rfl) (by rfl) (by rfl) ?_ ?_
  · intro K hK
    go_simp
    refine hK _ _ ?_
    clear hK K
    try simp only [Act.put, List.setIfInBounds_toArray, List.set_cons_zero, List.set_cons_succ]
    refine any_one 1 rfl (by kernel_rfl) (by rfl) ?_
    intro K hK
    go_simp
    refine (noFault_any _).mono ?_
    rintro e w52 ⟨rfl, hb2⟩
    have HX := hid (And.intro ((Eff.of_below (S := fun _ => False) hb2).blk HU2.out.2.1 (fun h => h)) (And.intro ((Eff.of_below (S := fun _ => False) hb2).blk HU2.out.2.2.1 (fun h => h)) (HU2.out.2.2.2.trans (hb2.mono HU2.out.2.2.2.size))))
    have HR2 := hid (HR1.out.on hb2)
    have k0 : w52.cell? ⟨tf, 0, none⟩ = some (.int .i64 gk) := ((Eff.of_below (S := fun _ => False) hb2).blk HU2.out.1 (fun h => h)).cell 0
    have k1 : w52.cell? ⟨tf, 1, none⟩ = some (.int .i64 gfr) := ((Eff.of_below (S := fun _ => False) hb2).blk HU2.out.1 (fun h => h)).cell 1
    have k2 : w52.cell? ⟨tf, 2, none⟩ = some (.int .i64 gtt) := ((Eff.of_below (S := fun _ => False) hb2).blk HU2.out.1 (fun h => h)).cell 2
    have k3 : w52.cell? ⟨tf, 3, none⟩ = some (.int .i64 gli) := ((Eff.of_below (S := fun _ => False) hb2).blk HU2.out.1 (fun h => h)).cell 3
    have k4 : w52.cell? ⟨tf, 4, none⟩ = some (.int .i64 gse) := ((Eff.of_below (S := fun _ => False) hb2).blk HU2.out.1 (fun h => h)).cell 4
    have k5 : w52.cell? ⟨tf, 5, none⟩ = some (.bool gout) := ((Eff.of_below (S := fun _ => False) hb2).blk HU2.out.1 (fun h => h)).cell 5
    have k6 : w52.cell? ⟨tf, 6, none⟩ = some (.int .i64 gco) := ((Eff.of_below (S := fun _ => False) hb2).blk HU2.out.1 (fun h => h)).cell 6
    have k7 : w52.cell? ⟨tf, 7, none⟩ = some (.int .i64 gfo) := ((Eff.of_below (S := fun _ => False) hb2).blk HU2.out.1 (fun h => h)).cell 7
    have k8 : w52.cell? ⟨tf, 8, none⟩ = some (.int .i64 gho) := ((Eff.of_below (S := fun _ => False) hb2).blk HU2.out.1 (fun h => h)).cell 8
    have k9 : w52.cell? ⟨tf, 9, none⟩ = some (.slice gMA gms.length gmc) := ((Eff.of_below (S := fun _ => False) hb2).blk HU2.out.1 (fun h => h)).cell 9
    have k10 : w52.cell? ⟨tf, 10, none⟩ = some (.slice gEA ges.length gec) := ((Eff.of_below (S := fun _ => False) hb2).blk HU2.out.1 (fun h => h)).cell 10
    clear hb2
    refine hK _ _ ?_
    clear hK K
    try simp only [Act.put, List.setIfInBounds_toArray, List.set_cons_zero, List.set_cons_succ]
    refine any_one 2 rfl (by kernel_rfl) (by rfl) ?_
    intro K hK
    refine wp_store_agg 64 _ _ rfl w.heap.size 0 rfl (frameL gk gfr gtt gli gse gout gco gfo gho gMA gms.length gmc gEA ges.length gec) rfl _ 64 HX.out.1 (by simp) rfl frame_info ?_
    intro w98 hx98 he98 hsz98
    have z98 := he98.blk HX.out.2.1 (fun h => hwf h.symm)
    have b98 := he98.below HX.out.2.2 HX.out.2.2.size (fun i hi h => by omega)
    have r98 := ring_keep HR2.out he98 HOFF.out.1
    refine hK _ _ ?_
    clear hK K
    try simp only [Act.put, List.setIfInBounds_toArray, List.set_cons_zero, List.set_cons_succ]
    refine any_one 3 rfl (by kernel_rfl) (by rfl) ?_
    intro K hK
    refine wp_store_agg 35 _ _ rfl rf 0 rfl [.int .i64 0, .bool false, .int .i64 0] rfl _ 35 z98 (by simp) rfl fault_size ?_
    intro w99 hx99 he99 hsz99
    have H99 := hid (And.intro (he99.blk hx98 hwf) (And.intro hx99 (And.intro (he99.below b98 b98.size (fun i hi h => by omega)) (ring_keep r98 he99 HOFF.out.2))))
    clear hx98 he98 hsz98 z98 b98 hx99 he99 hsz99 r98
    refine hK _ _ ?_
    clear hK K
    try simp only [Act.put, List.setIfInBounds_toArray, List.set_cons_zero, List.set_cons_succ]
    refine wpAny_done (by kernel_rfl) ?_ _
    go_wp2_with fail
    refine ret_two Tryd.results42 w.heap.size rf (frameL gk gfr gtt gli gse gout gco gfo gho gMA gms.length gmc gEA ges.length gec) [.int .i64 0, .bool false, .int .i64 0] 64 35 _ _ (by rfl) (by rfl) H99.out.1 H99.out.2.1 Tryd.underlying64 Tryd.underlying35 rfl rfl frame_info fault_size (by rfl) ?_
    rw [← HRR.out]
    exact ⟨⟨gk, gfr, gtt, gli, gse, gout, gco, gfo, gho, gMA, gms, gmc, gEA, ges, gec⟩, 0, false, 0, rfl, H99.out.2.2.2, ⟨rfl, rfl, rfl, HP.out⟩, H99.out.2.2.1⟩
  · intro K hK
    go_simp
    refine (noFault_any _).mono ?_
    rintro e w52 ⟨rfl, hb2⟩
    have HX := hid (And.intro ((Eff.of_below (S := fun _ => False) hb2).blk HU2.out.2.1 (fun h => h)) (And.intro ((Eff.of_below (S := fun _ => False) hb2).blk HU2.out.2.2.1 (fun h => h)) (HU2.out.2.2.2.trans (hb2.mono HU2.out.2.2.2.size))))
    have HR2 := hid (HR1.out.on hb2)
    have k0 : w52.cell? ⟨tf, 0, none⟩ = some (.int .i64 gk) := ((Eff.of_below (S := fun _ => False) hb2).blk HU2.out.1 (fun h => h)).cell 0
    have k1 : w52.cell? ⟨tf, 1, none⟩ = some (.int .i64 gfr) := ((Eff.of_below (S := fun _ => False) hb2).blk HU2.out.1 (fun h => h)).cell 1
    have k2 : w52.cell? ⟨tf, 2, none⟩ = some (.int .i64 gtt) := ((Eff.of_below (S := fun _ => False) hb2).blk HU2.out.1 (fun h => h)).cell 2
    have k3 : w52.cell? ⟨tf, 3, none⟩ = some (.int .i64 gli) := ((Eff.of_below (S := fun _ => False) hb2).blk HU2.out.1 (fun h => h)).cell 3
    have k4 : w52.cell? ⟨tf, 4, none⟩ = some (.int .i64 gse) := ((Eff.of_below (S := fun _ => False) hb2).blk HU2.out.1 (fun h => h)).cell 4
    have k5 : w52.cell? ⟨tf, 5, none⟩ = some (.bool gout) := ((Eff.of_below (S := fun _ => False) hb2).blk HU2.out.1 (fun h => h)).cell 5
    have k6 : w52.cell? ⟨tf, 6, none⟩ = some (.int .i64 gco) := ((Eff.of_below (S := fun _ => False) hb2).blk HU2.out.1 (fun h => h)).cell 6
    have k7 : w52.cell? ⟨tf, 7, none⟩ = some (.int .i64 gfo) := ((Eff.of_below (S := fun _ => False) hb2).blk HU2.out.1 (fun h => h)).cell 7
    have k8 : w52.cell? ⟨tf, 8, none⟩ = some (.int .i64 gho) := ((Eff.of_below (S := fun _ => False) hb2).blk HU2.out.1 (fun h => h)).cell 8
    have k9 : w52.cell? ⟨tf, 9, none⟩ = some (.slice gMA gms.length gmc) := ((Eff.of_below (S := fun _ => False) hb2).blk HU2.out.1 (fun h => h)).cell 9
    have k10 : w52.cell? ⟨tf, 10, none⟩ = some (.slice gEA ges.length gec) := ((Eff.of_below (S := fun _ => False) hb2).blk HU2.out.1 (fun h => h)).cell 10
    clear hb2
    refine hK _ _ ?_
    clear hK K
    try simp only [Act.put, List.setIfInBounds_toArray, List.set_cons_zero, List.set_cons_succ]
    refine any_one 0 rfl (by kernel_rfl) (by rfl) ?_
    intro K hK
    go_simp
    refine hK _ _ ?_
    clear hK K
    try simp only [Act.put, List.setIfInBounds_toArray, List.set_cons_zero, List.set_cons_succ]
    refine any_one 2 rfl (by kernel_rfl) (by rfl) ?_
    intro K hK
    refine wp_store_agg 64 _ _ rfl w.heap.size 0 rfl (frameL gk gfr gtt gli gse gout gco gfo gho gMA gms.length gmc gEA ges.length gec) rfl _ 64 HX.out.1 (by simp) rfl frame_info ?_
    intro w98 hx98 he98 hsz98
    have z98 := he98.blk HX.out.2.1 (fun h => hwf h.symm)
    have b98 := he98.below HX.out.2.2 HX.out.2.2.size (fun i hi h => by omega)
    have r98 := ring_keep HR2.out he98 HOFF.out.1
    refine hK _ _ ?_
    clear hK K
    try simp only [Act.put, List.setIfInBounds_toArray, List.set_cons_zero, List.set_cons_succ]
    refine any_one 3 rfl (by kernel_rfl) (by rfl) ?_
    intro K hK
    refine wp_store_agg 35 _ _ rfl rf 0 rfl [.int .i64 0, .bool false, .int .i64 0] rfl _ 35 z98 (by simp) rfl fault_size ?_
    intro w99 hx99 he99 hsz99
    have H99 := hid (And.intro (he99.blk hx98 hwf) (And.intro hx99 (And.intro (he99.below b98 b98.size (fun i hi h => by omega)) (ring_keep r98 he99 HOFF.out.2))))
    clear hx98 he98 hsz98 z98 b98 hx99 he99 hsz99 r98
    refine hK _ _ ?_
    clear hK K
    try simp only [Act.put, List.setIfInBounds_toArray, List.set_cons_zero, List.set_cons_succ]
    refine wpAny_done (by kernel_rfl) ?_ _
    go_wp2_with fail
    refine ret_two Tryd.results42 w.heap.size rf (frameL gk gfr gtt gli gse gout gco gfo gho gMA gms.length gmc gEA ges.length gec) [.int .i64 0, .bool false, .int .i64 0] 64 35 _ _ (by rfl) (by rfl) H99.out.1 H99.out.2.1 Tryd.underlying64 Tryd.underlying35 rfl rfl frame_info fault_size (by rfl) ?_
    rw [← HRR.out]
    exact ⟨⟨gk, gfr, gtt, gli, gse, gout, gco, gfo, gho, gMA, gms, gmc, gEA, ges, gec⟩, 0, false, 0, rfl, H99.out.2.2.2, ⟨rfl, rfl, rfl, HP.out⟩, H99.out.2.2.1⟩

def Cd (e : Int) : Prop := e = 0 ∨ 101 ≤ e ∧ e ≤ 113
theorem Cd.bare {e : Int} (h : Cd e) : Bare e := by
  rcases h with h | h
  · exact .inl h
  · exact .inr (IsErr.mk h)
theorem entE_cd (ms : List Int) (p : Option EntL) (e : EntL) : Cd (entE ms p e) := by
  unfold entE Cd
  split
  · omega
  split
  · omega
  split
  · omega
  split
  · omega
  split
  · omega
  · omega
theorem entAt_cd (ms : List Int) (es : List EntL) (k : Nat) : Cd (entAt ms es k) := by
  unfold entAt
  split
  · exact entE_cd _ _ _
  · exact .inl rfl
theorem entsE_cd (ms : List Int) (es : List EntL) : ∀ n k, Cd (entsE ms es k n) := by
  intro n
  induction n with
  | zero => intro k; rw [entsE]; exact .inl rfl
  | succ n ih =>
    intro k
    rw [entsE]
    split
    · exact ih _
    · exact entAt_cd _ _ _
theorem ringE_cd (count founder hop : Int) (ms : List Int) (es : List EntL) : Cd (ringE count founder hop ms es) := by
  unfold ringE
  split
  · exact .inr (by omega)
  split
  · exact .inr (by omega)
  split
  · exact .inr (by omega)
  split
  · exact .inr (by omega)
  · exact entsE_cd _ _ _ _
theorem tokE_cd (life seen : Int) (out : Bool) (count founder hop : Int) (ms : List Int) (es : List EntL) : Cd (tokE life seen out count founder hop ms es) := by
  unfold tokE
  split
  · exact .inr (by omega)
  · exact ringE_cd _ _ _ _ _
theorem frameE_cd (kind fr tt life seen : Int) (out : Bool) (count founder hop : Int) (ms : List Int) (es : List EntL) : Cd (frameE kind fr tt life seen out count founder hop ms es) := by
  unfold frameE
  split
  · exact .inr (by omega)
  split
  · exact .inr (by omega)
  split
  · exact tokE_cd _ _ _ _ _ _ _ _
  split
  · exact .inr (by omega)
  · exact .inl rfl
theorem frameEP_cd (f : FrameP) : Cd (frameEP f) := frameE_cd _ _ _ _ _ _ _ _ _ _ _
/-- A state's error, if any, is one of api's. -/
def OkS (s : RS) : Prop := ∀ c p, s.2 = some (c, p) → 101 ≤ c ∧ c ≤ 113
theorem numS_okS {bs : List Int} {low high : Int} {s : RS} (h : OkS s) : OkS (numS bs low high s).2 := by
  obtain ⟨p, o⟩ := s
  cases o with
  | some e => exact h
  | none =>
    intro c q hc
    unfold numS at hc
    simp only [numR] at hc
    cases hr : rd (bs.drop p) 0 0 with
    | ends => rw [hr] at hc; simp only [numAt, Option.some.injEq, Prod.mk.injEq] at hc; omega
    | shape => rw [hr] at hc; simp only [numAt, Option.some.injEq, Prod.mk.injEq] at hc; omega
    | num n k =>
      rw [hr, numAt] at hc
      split at hc
      · cases hc
      · simp only [Option.some.injEq, Prod.mk.injEq] at hc; omega
theorem memsR_okS {bs : List Int} (k : Nat) {s : RS} (h : OkS s) : OkS (memsR bs k s).2 := by
  induction k with
  | zero => exact h
  | succ k ih => exact numS_okS ih
theorem bidsR_okS {bs : List Int} (k : Nat) {s : RS} (h : OkS s) : OkS (bidsR bs k s).2 := by
  induction k with
  | zero => exact h
  | succ k ih => exact numS_okS (numS_okS ih)
theorem entR_okS {bs : List Int} {n : Int} {s : RS} (h : OkS s) : OkS (entR bs n s).2 := bidsR_okS _ (numS_okS (numS_okS (numS_okS (numS_okS (numS_okS h)))))
theorem entsR_okS {bs : List Int} {n : Int} (k : Nat) {s : RS} (h : OkS s) : OkS (entsR bs n k s).2 := by
  induction k with
  | zero => exact h
  | succ k ih =>
    rw [entsR]
    split
    · exact entR_okS ih
    · exact ih
theorem ringR_okS {bs : List Int} {s : RS} (h : OkS s) : OkS (ringR bs s).2 := entsR_okS _ (numS_okS (memsR_okS _ (numS_okS (numS_okS (numS_okS (numS_okS h))))))
theorem beatR_okS {bs : List Int} {s : RS} (h : OkS s) : OkS (beatR bs s).2 := numS_okS (numS_okS (numS_okS (numS_okS (numS_okS h))))
theorem tokR_okS {bs : List Int} {s : RS} (h : OkS s) : OkS (tokR bs s).2 := ringR_okS (numS_okS (numS_okS h))
/-- What Read answers bears one of api's errors. -/
def RFok : RF → Prop
  | .ok _ => True
  | .bare c => 101 ≤ c ∧ c ≤ 113
  | .at c _ => 101 ≤ c ∧ c ≤ 113
theorem endR_rf {bs : List Int} {x : FrameP × RS} (h : OkS x.2) : RFok (endR bs x) := by
  unfold endR
  cases ho : x.2.2 with
  | some e =>
    obtain ⟨c, p⟩ := e
    exact h c p ho
  | none =>
    simp only
    split
    · exact ⟨by omega, by omega⟩
    · split
      · rename_i h2
        rcases frameEP_cd x.1 with h3 | h3
        · exact absurd h3 h2
        · exact h3
      · trivial
theorem readR_rf (bs : List Int) : RFok (readR bs) := by
  unfold readR
  have h0 : OkS (2, none) := fun c p h => by cases h
  split
  · exact ⟨by omega, by omega⟩
  split
  · exact ⟨by omega, by omega⟩
  split
  · exact endR_rf (beatR_okS h0)
  · exact endR_rf (tokR_okS h0)
def GivesBy2 (ad : Int → Addr) (w : World) (f : FrL) (e : Ending) (w' : World) : Prop := ∃ (A : Option Addr) (n c : Nat), e = .returned (.tuple #[.slice A n c, errV ad f.E]) ∧ Below w.heap.size w w' ∧ (f.E = 0 → n = f.B.length ∧ Sl w' A (f.B.map (Value.int .u8))) ∧ (f.E ≠ 0 → n = 0)
theorem bytesL2 {ad : Int → Addr} (f : FrL) (w : World) (hE : ErrsV ad w) (hR : RingIs w f.MA f.ms f.EA f.es) : Calls Tryd.prog 33 #[f.val] w (GivesBy2 ad w f) := by
  by_cases h0 : f.E = 0
  · refine (bytesF_any (ad := ad) f.kind f.fr f.tt f.life f.seen f.out f.count f.founder f.hop f.MA f.mc f.ms f.EA f.ec f.es w hE hR h0).mono ?_
    rintro e w' ⟨A, c, he, hs, hb⟩
    refine ⟨A, _, c, ?_, hb, fun _ => ⟨rfl, hs.1⟩, fun h => absurd h0 h⟩
    rw [he, h0]
    rfl
  · refine (bytesBadF_any (ad := ad) f.kind f.fr f.tt f.life f.seen f.out f.count f.founder f.hop f.MA f.mc f.ms f.EA f.ec f.es w hE hR f.E rfl h0).mono ?_
    rintro e w' ⟨he, hb⟩
    exact ⟨none, 0, 0, he, hb, fun h => absurd h h0, fun _ => rfl⟩
theorem own_ring {base : Nat} {w : World} {MA EA : Option Addr} {ms : List Int} {es : List EntL} {mc ec : Nat} (h : RingOwn base w MA ms mc EA es ec) (hl : ms.length ≤ 100000 ∧ es.length ≤ 100000 ∧ ∀ e ∈ es, e.bids.length ≤ 9223372036854775807) : RingIs w MA ms EA es := by
  obtain ⟨_, _, h1, _, _, hm⟩ := Sl.row h.mem
  obtain ⟨_, _, h2, _, _, he⟩ := Sl.row h.ent
  refine ⟨?_, ?_, fun e hm => ?_, hl⟩
  · injection h1 with h1; rw [h1]; exact hm
  · injection h2 with h2; rw [h2]; exact he
  · obtain ⟨_, _, h3, _, _, hb⟩ := Sl.row (h.bid e hm)
    injection h3 with h3
    show Sl w e.A _
    rw [h3]
    exact hb

theorem RingOwn.ok {B : Nat} {w : World} {M E : Option Addr} {ms : List Int} {es : List EntL} {mc ec : Nat} (h : RingOwn B w M ms mc E es ec) (kind fr tt life seen : Int) (out : Bool) (count founder hop : Int) : FrOk w ⟨kind, fr, tt, life, seen, out, count, founder, hop, M, ms, mc, E, es, ec⟩ := by
  have key : ∀ (E : TypeId) (s n c : Nat) (A : Option Addr) (xs : List Value), w.ownsRow B E s (.slice A n c) n xs → n ≤ maxLen := fun E s n c A xs ho => by
    obtain ⟨_, c', e, h1, h2, _⟩ := Sl.row ho
    exact Nat.le_trans h1 h2
  exact ⟨sl_own h.mem, sl_own h.ent, fun e he => sl_own (h.bid e he), key _ _ _ _ _ _ h.mem, key _ _ _ _ _ _ h.ent, fun e he => key _ _ _ _ _ _ (h.bid e he)⟩
theorem ReadOut.on {ad : Int → Addr} {w w' : World} {g : FrL} {ev : Value} {R : RF} (h : ReadOut ad w g ev R) (hb : Below w.heap.size w w') : ReadOut ad w' g ev R := by
  cases R with
  | ok f => exact h
  | bare c => exact h
  | «at» c p =>
    obtain ⟨⟨B, h1, h2⟩, h3⟩ := h
    exact ⟨⟨B, h1, (Eff.of_below (S := fun _ => False) hb).blk h2 (fun h => h)⟩, h3⟩
theorem says_same {ad : Int → Addr} {w : World} {u v : FrL} {ev : Value} {c : Int} {is : Bool} {p : Int} {R : RF} (hE : Errs ad w) (hro : ReadOut ad w u ev R) (hfo : FaultOut v c is p R) (hR : RFok R) :
    Calls Tryd.prog 20 #[ev, faultV c is p] w (SaysBool w true) ∧ u.pl = v.pl := by
  cases R with
  | ok f =>
    obtain ⟨rfl, h1⟩ := hro
    obtain ⟨rfl, rfl, rfl, h2⟩ := hfo
    have h := same_any (k := 0) (code := 0) hE (.inl rfl)
    rw [beq_self_eq_true] at h
    exact ⟨h, h1.trans h2.symm⟩
  | bare k =>
    obtain ⟨rfl, h0, rfl⟩ := hro
    obtain ⟨rfl, rfl, rfl, rfl⟩ := hfo
    have h := same_any (k := c) (code := c) hE (.inr (IsErr.mk hR))
    rw [beq_self_eq_true] at h
    exact ⟨h, rfl⟩
  | «at» k q =>
    obtain ⟨⟨B, rfl, hb⟩, rfl⟩ := hro
    obtain ⟨rfl, rfl, rfl, rfl⟩ := hfo
    exact ⟨same_at hE (IsErr.mk hR) hb, rfl⟩
set_option maxRecDepth 100000 in
set_option maxHeartbeats 16000000 in
theorem frameSays_walk {ad : Int → Addr} (f g : FrL) (A : Option Addr) (c : Nat) (bs : List Int) (w : World) (hf : FrOk w f) (hg : FrOk w g) (hs : Sl w A (bs.map (Value.int .u8))) (hml : bs.length ≤ 9223372036854775807) (hBb : IsB bs) (hE : Errs ad w) :
    Calls Tryd.prog 13 #[f.val, g.val, .slice A bs.length c] w (SaysTrue w) := by
  obtain ⟨w1, hw1⟩ : ∃ w1, w1 = (w.alloc (.cells #[.int .i64 f.kind, .int .i64 f.fr, .int .i64 f.tt, .int .i64 f.life, .int .i64 f.seen, .bool f.out, .int .i64 f.count, .int .i64 f.founder, .int .i64 f.hop, .slice f.MA f.ms.length f.mc, .slice f.EA f.es.length f.ec] 64)).alloc (.cells #[.int .i64 g.kind, .int .i64 g.fr, .int .i64 g.tt, .int .i64 g.life, .int .i64 g.seen, .bool g.out, .int .i64 g.count, .int .i64 g.founder, .int .i64 g.hop, .slice g.MA g.ms.length g.mc, .slice g.EA g.es.length g.ec] 64) := ⟨_, rfl⟩
  have hB1 : Below w.heap.size w w1 := by rw [hw1]; exact ((Below.refl _ _).alloc (Nat.le_refl _) _).alloc (by simp) _
  have x1 : Blk w1 w.heap.size [.int .i64 f.kind, .int .i64 f.fr, .int .i64 f.tt, .int .i64 f.life, .int .i64 f.seen, .bool f.out, .int .i64 f.count, .int .i64 f.founder, .int .i64 f.hop, .slice f.MA f.ms.length f.mc, .slice f.EA f.es.length f.ec] 64 := by rw [hw1]; exact (Blk.new w _ _).alloc _
  have y1 : Blk w1 (w.heap.size + 1) [.int .i64 g.kind, .int .i64 g.fr, .int .i64 g.tt, .int .i64 g.life, .int .i64 g.seen, .bool g.out, .int .i64 g.count, .int .i64 g.founder, .int .i64 g.hop, .slice g.MA g.ms.length g.mc, .slice g.EA g.es.length g.ec] 64 := by
    rw [hw1, show w.heap.size + 1 = (w.alloc (.cells #[.int .i64 f.kind, .int .i64 f.fr, .int .i64 f.tt, .int .i64 f.life, .int .i64 f.seen, .bool f.out, .int .i64 f.count, .int .i64 f.founder, .int .i64 f.hop, .slice f.MA f.ms.length f.mc, .slice f.EA f.es.length f.ec] 64)).heap.size from by simp]
    exact Blk.new _ _ _
  have hfirst := first5V_any (ad := ad) w1 (hE.valid.below hB1)
  have H0 := hid (And.intro hf (And.intro hg (And.intro hs (And.intro hBb hE))))
  clear hf hg hs hE
  go_enter Tryd.func13, Tryd.ntmps13
  go_upto_region 1 with (fail)
  rw [← hw1]
  clear hw1
  obtain ⟨gb, hgb⟩ : ∃ gb, gb = w.heap.size + 1 := ⟨_, rfl⟩
  rw [← hgb] at y1 ⊢
  have hgbw : w.heap.size < gb := by omega
  clear hgb
  go_wp2_with fail
  refine hfirst.mono ?_
  rintro e w2 ⟨rfl, hb2⟩
  have x2 := (Eff.of_below (S := fun _ => False) hb2).blk x1 (fun h => h)
  have y2 := (Eff.of_below (S := fun _ => False) hb2).blk y1 (fun h => h)
  have B2 := hB1.trans (hb2.mono hB1.size)
  clear hfirst hb2 x1 y1 hB1
  by_cases h600 : bs.length ≤ 600
  case neg =>
    have h600' : (600 : Int) < bs.length := by omega
    go_wp2_with fail
    go_ret
    exact ⟨rfl, B2⟩
  have h600' : ¬ (600 : Int) < bs.length := by omega
  have hlf := light_any f w2 (H0.out.1.on B2)
  cases hLf : f.light
  case false =>
    rw [hLf] at hlf
    have c0 : w2.cell? ⟨w.heap.size, 0, none⟩ = some (.int .i64 f.kind) := x2.cell 0
    have c1 : w2.cell? ⟨w.heap.size, 1, none⟩ = some (.int .i64 f.fr) := x2.cell 1
    have c2 : w2.cell? ⟨w.heap.size, 2, none⟩ = some (.int .i64 f.tt) := x2.cell 2
    have c3 : w2.cell? ⟨w.heap.size, 3, none⟩ = some (.int .i64 f.life) := x2.cell 3
    have c4 : w2.cell? ⟨w.heap.size, 4, none⟩ = some (.int .i64 f.seen) := x2.cell 4
    have c5 : w2.cell? ⟨w.heap.size, 5, none⟩ = some (.bool f.out) := x2.cell 5
    have c6 : w2.cell? ⟨w.heap.size, 6, none⟩ = some (.int .i64 f.count) := x2.cell 6
    have c7 : w2.cell? ⟨w.heap.size, 7, none⟩ = some (.int .i64 f.founder) := x2.cell 7
    have c8 : w2.cell? ⟨w.heap.size, 8, none⟩ = some (.int .i64 f.hop) := x2.cell 8
    have c9 : w2.cell? ⟨w.heap.size, 9, none⟩ = some (.slice f.MA f.ms.length f.mc) := x2.cell 9
    have c10 : w2.cell? ⟨w.heap.size, 10, none⟩ = some (.slice f.EA f.es.length f.ec) := x2.cell 10
    clear hLf
    go_wp2_with fail
    refine hlf.mono ?_
    rintro e w3 ⟨rfl, hb3⟩
    have B3 := B2.trans (hb3.mono B2.size)
    go_wp2_with fail
    go_ret
    exact ⟨rfl, B3⟩
  rw [hLf] at hlf
  have c0 : w2.cell? ⟨w.heap.size, 0, none⟩ = some (.int .i64 f.kind) := x2.cell 0
  have c1 : w2.cell? ⟨w.heap.size, 1, none⟩ = some (.int .i64 f.fr) := x2.cell 1
  have c2 : w2.cell? ⟨w.heap.size, 2, none⟩ = some (.int .i64 f.tt) := x2.cell 2
  have c3 : w2.cell? ⟨w.heap.size, 3, none⟩ = some (.int .i64 f.life) := x2.cell 3
  have c4 : w2.cell? ⟨w.heap.size, 4, none⟩ = some (.int .i64 f.seen) := x2.cell 4
  have c5 : w2.cell? ⟨w.heap.size, 5, none⟩ = some (.bool f.out) := x2.cell 5
  have c6 : w2.cell? ⟨w.heap.size, 6, none⟩ = some (.int .i64 f.count) := x2.cell 6
  have c7 : w2.cell? ⟨w.heap.size, 7, none⟩ = some (.int .i64 f.founder) := x2.cell 7
  have c8 : w2.cell? ⟨w.heap.size, 8, none⟩ = some (.int .i64 f.hop) := x2.cell 8
  have c9 : w2.cell? ⟨w.heap.size, 9, none⟩ = some (.slice f.MA f.ms.length f.mc) := x2.cell 9
  have c10 : w2.cell? ⟨w.heap.size, 10, none⟩ = some (.slice f.EA f.es.length f.ec) := x2.cell 10
  have HLf := hid hLf
  clear hLf
  go_wp2_with fail
  refine hlf.mono ?_
  rintro e w3 ⟨rfl, hb3⟩
  have x3 := (Eff.of_below (S := fun _ => False) hb3).blk x2 (fun h => h)
  have y3 := (Eff.of_below (S := fun _ => False) hb3).blk y2 (fun h => h)
  have B3 := B2.trans (hb3.mono B2.size)
  clear hlf hb3 x2 y2 B2 c0 c1 c2 c3 c4 c5 c6 c7 c8 c9 c10
  have d0 : w3.cell? ⟨gb, 0, none⟩ = some (.int .i64 g.kind) := y3.cell 0
  have d1 : w3.cell? ⟨gb, 1, none⟩ = some (.int .i64 g.fr) := y3.cell 1
  have d2 : w3.cell? ⟨gb, 2, none⟩ = some (.int .i64 g.tt) := y3.cell 2
  have d3 : w3.cell? ⟨gb, 3, none⟩ = some (.int .i64 g.life) := y3.cell 3
  have d4 : w3.cell? ⟨gb, 4, none⟩ = some (.int .i64 g.seen) := y3.cell 4
  have d5 : w3.cell? ⟨gb, 5, none⟩ = some (.bool g.out) := y3.cell 5
  have d6 : w3.cell? ⟨gb, 6, none⟩ = some (.int .i64 g.count) := y3.cell 6
  have d7 : w3.cell? ⟨gb, 7, none⟩ = some (.int .i64 g.founder) := y3.cell 7
  have d8 : w3.cell? ⟨gb, 8, none⟩ = some (.int .i64 g.hop) := y3.cell 8
  have d9 : w3.cell? ⟨gb, 9, none⟩ = some (.slice g.MA g.ms.length g.mc) := y3.cell 9
  have d10 : w3.cell? ⟨gb, 10, none⟩ = some (.slice g.EA g.es.length g.ec) := y3.cell 10
  have hlg := light_any g w3 (H0.out.2.1.on B3)
  cases hLg : g.light
  case false =>
    rw [hLg] at hlg
    clear hLg
    go_wp2_with fail
    refine hlg.mono ?_
    rintro e w4 ⟨rfl, hb4⟩
    have B4 := B3.trans (hb4.mono B3.size)
    go_wp2_with fail
    go_ret
    exact ⟨rfl, B4⟩
  rw [hLg] at hlg
  have HLg := hid hLg
  clear hLg
  go_wp2_with fail
  refine hlg.mono ?_
  rintro e w4 ⟨rfl, hb4⟩
  have x4 := (Eff.of_below (S := fun _ => False) hb4).blk x3 (fun h => h)
  have y4 := (Eff.of_below (S := fun _ => False) hb4).blk y3 (fun h => h)
  have B4 := B3.trans (hb4.mono B3.size)
  clear hlg hb4 x3 y3 B3 d0 d1 d2 d3 d4 d5 d6 d7 d8 d9 d10
  have hRf := H0.out.1.ring HLf.out
  have hRg := H0.out.2.1.ring HLg.out
  obtain ⟨E, hfE⟩ : ∃ E, f.E = E := ⟨_, rfl⟩
  have hbare : Bare E := by rw [← hfE]; exact (frameE_cd _ _ _ _ _ _ _ _ _ _ _).bare
  have HFE := hid hfE
  clear hfE
  have x4 : Blk w4 w.heap.size [.int .i64 f.kind, .int .i64 f.fr, .int .i64 f.tt, .int .i64 f.life, .int .i64 f.seen, .bool f.out, .int .i64 f.count, .int .i64 f.founder, .int .i64 f.hop, .slice f.MA f.ms.length f.mc, .slice f.EA f.es.length f.ec] 64 := x4
  have y4 : Blk w4 gb [.int .i64 g.kind, .int .i64 g.fr, .int .i64 g.tt, .int .i64 g.life, .int .i64 g.seen, .bool g.out, .int .i64 g.count, .int .i64 g.founder, .int .i64 g.hop, .slice g.MA g.ms.length g.mc, .slice g.EA g.es.length g.ec] 64 := y4
  have hva := refValidF_any f w4 (hRf.on B4)
  rw [HFE.out] at hva
  have c0 : w4.cell? ⟨w.heap.size, 0, none⟩ = some (.int .i64 f.kind) := x4.cell 0
  have c1 : w4.cell? ⟨w.heap.size, 1, none⟩ = some (.int .i64 f.fr) := x4.cell 1
  have c2 : w4.cell? ⟨w.heap.size, 2, none⟩ = some (.int .i64 f.tt) := x4.cell 2
  have c3 : w4.cell? ⟨w.heap.size, 3, none⟩ = some (.int .i64 f.life) := x4.cell 3
  have c4 : w4.cell? ⟨w.heap.size, 4, none⟩ = some (.int .i64 f.seen) := x4.cell 4
  have c5 : w4.cell? ⟨w.heap.size, 5, none⟩ = some (.bool f.out) := x4.cell 5
  have c6 : w4.cell? ⟨w.heap.size, 6, none⟩ = some (.int .i64 f.count) := x4.cell 6
  have c7 : w4.cell? ⟨w.heap.size, 7, none⟩ = some (.int .i64 f.founder) := x4.cell 7
  have c8 : w4.cell? ⟨w.heap.size, 8, none⟩ = some (.int .i64 f.hop) := x4.cell 8
  have c9 : w4.cell? ⟨w.heap.size, 9, none⟩ = some (.slice f.MA f.ms.length f.mc) := x4.cell 9
  have c10 : w4.cell? ⟨w.heap.size, 10, none⟩ = some (.slice f.EA f.es.length f.ec) := x4.cell 10
  go_wp2_with fail
  refine hva.mono ?_
  rintro e w5 ⟨rfl, hb5⟩
  have x5 := (Eff.of_below (S := fun _ => False) hb5).blk x4 (fun h => h)
  have y5 := (Eff.of_below (S := fun _ => False) hb5).blk y4 (fun h => h)
  have B5 := B4.trans (hb5.mono B4.size)
  clear hva hb5 x4 y4 B4
  clear c0 c1 c2 c3 c4 c5 c6 c7 c8 c9 c10
  have hby := bytesL2 (ad := ad) f w5 (H0.out.2.2.2.2.valid.below B5) (hRf.on B5)
  have c0 : w5.cell? ⟨w.heap.size, 0, none⟩ = some (.int .i64 f.kind) := x5.cell 0
  have c1 : w5.cell? ⟨w.heap.size, 1, none⟩ = some (.int .i64 f.fr) := x5.cell 1
  have c2 : w5.cell? ⟨w.heap.size, 2, none⟩ = some (.int .i64 f.tt) := x5.cell 2
  have c3 : w5.cell? ⟨w.heap.size, 3, none⟩ = some (.int .i64 f.life) := x5.cell 3
  have c4 : w5.cell? ⟨w.heap.size, 4, none⟩ = some (.int .i64 f.seen) := x5.cell 4
  have c5 : w5.cell? ⟨w.heap.size, 5, none⟩ = some (.bool f.out) := x5.cell 5
  have c6 : w5.cell? ⟨w.heap.size, 6, none⟩ = some (.int .i64 f.count) := x5.cell 6
  have c7 : w5.cell? ⟨w.heap.size, 7, none⟩ = some (.int .i64 f.founder) := x5.cell 7
  have c8 : w5.cell? ⟨w.heap.size, 8, none⟩ = some (.int .i64 f.hop) := x5.cell 8
  have c9 : w5.cell? ⟨w.heap.size, 9, none⟩ = some (.slice f.MA f.ms.length f.mc) := x5.cell 9
  have c10 : w5.cell? ⟨w.heap.size, 10, none⟩ = some (.slice f.EA f.es.length f.ec) := x5.cell 10
  go_wp2_with fail
  refine hby.mono ?_
  rintro e w6 ⟨A6, n6, k6, rfl, hb6, hgood, hbad⟩
  have x6 := ((Eff.of_below (S := fun _ => False) hb6).blk x5 (fun h => h)).drew
  have y6 := ((Eff.of_below (S := fun _ => False) hb6).blk y5 (fun h => h)).drew
  have B6 := (B5.trans (hb6.mono B5.size)).drew
  rw [HFE.out] at hgood hbad ⊢
  have HGB := hid (And.intro hgood hbad)
  clear hby hb6 x5 y5 B5 hgood hbad
  clear c0 c1 c2 c3 c4 c5 c6 c7 c8 c9 c10
  go_upto_region 8 with (fail)
  have hvl := validL (ad := ad) f w6.drew (H0.out.2.2.2.2.valid.below B6) (hRf.on B6)
  rw [HFE.out] at hvl
  obtain ⟨d, hd⟩ : ∃ d, decide (f.pl = g.pl) = d := ⟨_, rfl⟩
  have hdd : (d != d) = false := by cases d <;> rfl
  have HD := hid hd
  clear hd
  have three : ∀ w', Blk w' w.heap.size [.int .i64 f.kind, .int .i64 f.fr, .int .i64 f.tt, .int .i64 f.life, .int .i64 f.seen, .bool f.out, .int .i64 f.count, .int .i64 f.founder, .int .i64 f.hop, .slice f.MA f.ms.length f.mc, .slice f.EA f.es.length f.ec] 64 → Blk w' gb [.int .i64 g.kind, .int .i64 g.fr, .int .i64 g.tt, .int .i64 g.life, .int .i64 g.seen, .bool g.out, .int .i64 g.count, .int .i64 g.founder, .int .i64 g.hop, .slice g.MA g.ms.length g.mc, .slice g.EA g.es.length g.ec] 64 → w'.cell? ⟨w.heap.size, 0, none⟩ = some (.int .i64 f.kind) ∧ w'.cell? ⟨w.heap.size, 1, none⟩ = some (.int .i64 f.fr) ∧ w'.cell? ⟨w.heap.size, 2, none⟩ = some (.int .i64 f.tt) ∧ w'.cell? ⟨w.heap.size, 3, none⟩ = some (.int .i64 f.life) ∧ w'.cell? ⟨w.heap.size, 4, none⟩ = some (.int .i64 f.seen) ∧ w'.cell? ⟨w.heap.size, 5, none⟩ = some (.bool f.out) ∧ w'.cell? ⟨w.heap.size, 6, none⟩ = some (.int .i64 f.count) ∧ w'.cell? ⟨w.heap.size, 7, none⟩ = some (.int .i64 f.founder) ∧ w'.cell? ⟨w.heap.size, 8, none⟩ = some (.int .i64 f.hop) ∧ w'.cell? ⟨w.heap.size, 9, none⟩ = some (.slice f.MA f.ms.length f.mc) ∧ w'.cell? ⟨w.heap.size, 10, none⟩ = some (.slice f.EA f.es.length f.ec) ∧ w'.cell? ⟨gb, 0, none⟩ = some (.int .i64 g.kind) ∧ w'.cell? ⟨gb, 1, none⟩ = some (.int .i64 g.fr) ∧ w'.cell? ⟨gb, 2, none⟩ = some (.int .i64 g.tt) ∧ w'.cell? ⟨gb, 3, none⟩ = some (.int .i64 g.life) ∧ w'.cell? ⟨gb, 4, none⟩ = some (.int .i64 g.seen) ∧ w'.cell? ⟨gb, 5, none⟩ = some (.bool g.out) ∧ w'.cell? ⟨gb, 6, none⟩ = some (.int .i64 g.count) ∧ w'.cell? ⟨gb, 7, none⟩ = some (.int .i64 g.founder) ∧ w'.cell? ⟨gb, 8, none⟩ = some (.int .i64 g.hop) ∧ w'.cell? ⟨gb, 9, none⟩ = some (.slice g.MA g.ms.length g.mc) ∧ w'.cell? ⟨gb, 10, none⟩ = some (.slice g.EA g.es.length g.ec) := fun w' hx hg => ⟨hx.cell 0, hx.cell 1, hx.cell 2, hx.cell 3, hx.cell 4, hx.cell 5, hx.cell 6, hx.cell 7, hx.cell 8, hx.cell 9, hx.cell 10, hg.cell 0, hg.cell 1, hg.cell 2, hg.cell 3, hg.cell 4, hg.cell 5, hg.cell 6, hg.cell 7, hg.cell 8, hg.cell 9, hg.cell 10⟩
  have HTW := hid three
  clear three
  go_cut [65] (fun v wx => v = .bool false ∧ Blk wx w.heap.size [.int .i64 f.kind, .int .i64 f.fr, .int .i64 f.tt, .int .i64 f.life, .int .i64 f.seen, .bool f.out, .int .i64 f.count, .int .i64 f.founder, .int .i64 f.hop, .slice f.MA f.ms.length f.mc, .slice f.EA f.es.length f.ec] 64 ∧ Blk wx gb [.int .i64 g.kind, .int .i64 g.fr, .int .i64 g.tt, .int .i64 g.life, .int .i64 g.seen, .bool g.out, .int .i64 g.count, .int .i64 g.founder, .int .i64 g.hop, .slice g.MA g.ms.length g.mc, .slice g.EA g.es.length g.ec] 64 ∧ Below w.heap.size w wx ∧ Below w6.heap.size w6 wx)
  case first =>
    have q0 : w6.drew.cell? ⟨w.heap.size, 0, none⟩ = some (.int .i64 f.kind) := x6.cell 0
    have q1 : w6.drew.cell? ⟨w.heap.size, 1, none⟩ = some (.int .i64 f.fr) := x6.cell 1
    have q2 : w6.drew.cell? ⟨w.heap.size, 2, none⟩ = some (.int .i64 f.tt) := x6.cell 2
    have q3 : w6.drew.cell? ⟨w.heap.size, 3, none⟩ = some (.int .i64 f.life) := x6.cell 3
    have q4 : w6.drew.cell? ⟨w.heap.size, 4, none⟩ = some (.int .i64 f.seen) := x6.cell 4
    have q5 : w6.drew.cell? ⟨w.heap.size, 5, none⟩ = some (.bool f.out) := x6.cell 5
    have q6 : w6.drew.cell? ⟨w.heap.size, 6, none⟩ = some (.int .i64 f.count) := x6.cell 6
    have q7 : w6.drew.cell? ⟨w.heap.size, 7, none⟩ = some (.int .i64 f.founder) := x6.cell 7
    have q8 : w6.drew.cell? ⟨w.heap.size, 8, none⟩ = some (.int .i64 f.hop) := x6.cell 8
    have q9 : w6.drew.cell? ⟨w.heap.size, 9, none⟩ = some (.slice f.MA f.ms.length f.mc) := x6.cell 9
    have q10 : w6.drew.cell? ⟨w.heap.size, 10, none⟩ = some (.slice f.EA f.es.length f.ec) := x6.cell 10
    refine wp_region_held_drew (S := fun w' => w'.cell? ⟨w.heap.size, 0, none⟩ = some (.int .i64 f.kind) ∧ w'.cell? ⟨w.heap.size, 1, none⟩ = some (.int .i64 f.fr) ∧ w'.cell? ⟨w.heap.size, 2, none⟩ = some (.int .i64 f.tt) ∧ w'.cell? ⟨w.heap.size, 3, none⟩ = some (.int .i64 f.life) ∧ w'.cell? ⟨w.heap.size, 4, none⟩ = some (.int .i64 f.seen) ∧ w'.cell? ⟨w.heap.size, 5, none⟩ = some (.bool f.out) ∧ w'.cell? ⟨w.heap.size, 6, none⟩ = some (.int .i64 f.count) ∧ w'.cell? ⟨w.heap.size, 7, none⟩ = some (.int .i64 f.founder) ∧ w'.cell? ⟨w.heap.size, 8, none⟩ = some (.int .i64 f.hop) ∧ w'.cell? ⟨w.heap.size, 9, none⟩ = some (.slice f.MA f.ms.length f.mc) ∧ w'.cell? ⟨w.heap.size, 10, none⟩ = some (.slice f.EA f.es.length f.ec) ∧ w'.cell? ⟨gb, 0, none⟩ = some (.int .i64 g.kind) ∧ w'.cell? ⟨gb, 1, none⟩ = some (.int .i64 g.fr) ∧ w'.cell? ⟨gb, 2, none⟩ = some (.int .i64 g.tt) ∧ w'.cell? ⟨gb, 3, none⟩ = some (.int .i64 g.life) ∧ w'.cell? ⟨gb, 4, none⟩ = some (.int .i64 g.seen) ∧ w'.cell? ⟨gb, 5, none⟩ = some (.bool g.out) ∧ w'.cell? ⟨gb, 6, none⟩ = some (.int .i64 g.count) ∧ w'.cell? ⟨gb, 7, none⟩ = some (.int .i64 g.founder) ∧ w'.cell? ⟨gb, 8, none⟩ = some (.int .i64 g.hop) ∧ w'.cell? ⟨gb, 9, none⟩ = some (.slice g.MA g.ms.length g.mc) ∧ w'.cell? ⟨gb, 10, none⟩ = some (.slice g.EA g.es.length g.ec)) (by kernel_rfl) ?_ (fun hHeld => ?_)
    · (try dsimp only); (first | exact HTW.out _ x6 y6 | exact HTW.out _ x7 y7 | exact HTW.out _ x8 y8 | exact HTW.out _ x9 y9 | exact HTW.out _ xA yA | exact HTW.out _ xB yB | exact HTW.out _ xC yC | exact HTW.out _ xD yD)
    refine held_take 0 ?_ rfl (by kernel_rfl) (by kernel_rfl) (by kernel_rfl) (fun _ _ _ h => h) (by rfl) ?_ hHeld ?_
    rotate_left
    · (intro w hSw; (try dsimp only at hSw); go_simp; try with_reducible rfl)
    try simp only [Act.put, List.setIfInBounds_toArray, List.set_cons_zero, List.set_cons_succ]
    refine held_take 2 ?_ rfl (by kernel_rfl) (by kernel_rfl) (by kernel_rfl) (fun _ _ _ h => h) (by rfl) ?_ hHeld ?_
    rotate_left
    · (intro w hSw; (try dsimp only at hSw); go_simp; try with_reducible rfl)
    try simp only [Act.put, List.setIfInBounds_toArray, List.set_cons_zero, List.set_cons_succ]
    refine held_one 1 rfl (by kernel_rfl) (by rfl) (fun K hK => ?_)
    go_simp
    refine hvl.mono ?_
    rintro e w7 ⟨rfl, hb7⟩
    have x7 := (Eff.of_below (S := fun _ => False) hb7).blk x6 (fun h => h)
    have y7 := (Eff.of_below (S := fun _ => False) hb7).blk y6 (fun h => h)
    have B7 := B6.trans (hb7.mono B6.size)
    have C7 := (Below.refl w6.heap.size w6).drew.trans hb7
    clear q0 q1 q2 q3 q4 q5 q6 q7 q8 q9 q10
    refine hK.out _ _ ?_ (fun hHeld2 => ?_)
    · (try dsimp only); (first | exact HTW.out _ x6 y6 | exact HTW.out _ x7 y7 | exact HTW.out _ x8 y8 | exact HTW.out _ x9 y9 | exact HTW.out _ xA yA | exact HTW.out _ xB yB | exact HTW.out _ xC yC | exact HTW.out _ xD yD)
    clear hK K hHeld
    have hHeld := hHeld2
    clear hHeld2
    try simp only [Act.put, List.setIfInBounds_toArray, List.set_cons_zero, List.set_cons_succ]
    refine held_one 3 rfl (by kernel_rfl) (by rfl) (fun K hK => ?_)
    go_simp
    refine (is_any E (H0.out.2.2.2.2.below B7) hbare).mono ?_
    rintro e w8 ⟨rfl, hb8⟩
    rw [beq_self_eq_true]
    have x8 := (Eff.of_below (S := fun _ => False) hb8).blk x7 (fun h => h)
    have y8 := (Eff.of_below (S := fun _ => False) hb8).blk y7 (fun h => h)
    have B8 := B7.trans (hb8.mono B7.size)
    have C8 := C7.trans (hb8.mono C7.size)
    refine hK.out _ _ ?_ (fun hHeld2 => ?_)
    · (try dsimp only); (first | exact HTW.out _ x6 y6 | exact HTW.out _ x7 y7 | exact HTW.out _ x8 y8 | exact HTW.out _ x9 y9 | exact HTW.out _ xA yA | exact HTW.out _ xB yB | exact HTW.out _ xC yC | exact HTW.out _ xD yD)
    clear hK K hHeld
    have hHeld := hHeld2
    clear hHeld2
    try simp only [Act.put, List.setIfInBounds_toArray, List.set_cons_zero, List.set_cons_succ]
    refine held_take 4 ?_ rfl (by kernel_rfl) (by kernel_rfl) (by kernel_rfl) (fun _ _ _ h => h) (by rfl) ?_ hHeld ?_
    rotate_left
    · (intro w hSw; (try dsimp only at hSw); go_simp; try with_reducible rfl)
    try simp only [Act.put, List.setIfInBounds_toArray, List.set_cons_zero, List.set_cons_succ]
    refine held_take 5 ?_ rfl (by kernel_rfl) (by kernel_rfl) (by kernel_rfl) (fun _ _ _ h => h) (by rfl) ?_ hHeld ?_
    rotate_left
    · (intro w hSw; (try dsimp only at hSw); go_simp; try with_reducible rfl)
    try simp only [Act.put, List.setIfInBounds_toArray, List.set_cons_zero, List.set_cons_succ]
    refine held_take 6 ?_ rfl (by kernel_rfl) (by kernel_rfl) (by kernel_rfl) (fun _ _ _ h => h) (by rfl) ?_ hHeld ?_
    rotate_left
    · (intro w hSw; (try dsimp only at hSw); go_simp; try with_reducible rfl)
    try simp only [Act.put, List.setIfInBounds_toArray, List.set_cons_zero, List.set_cons_succ]
    refine held_take 7 ?_ rfl (by kernel_rfl) (by kernel_rfl) (by kernel_rfl) (fun _ _ _ h => h) (by rfl) ?_ hHeld ?_
    rotate_left
    · (intro w hSw; (try dsimp only at hSw); go_simp; try with_reducible rfl)
    try simp only [Act.put, List.setIfInBounds_toArray, List.set_cons_zero, List.set_cons_succ]
    refine held_one 8 rfl (by kernel_rfl) (by rfl) (fun K hK => ?_)
    go_simp
    refine (is_any E (H0.out.2.2.2.2.below B8) hbare).mono ?_
    rintro e w9 ⟨rfl, hb9⟩
    rw [beq_self_eq_true]
    have x9 := (Eff.of_below (S := fun _ => False) hb9).blk x8 (fun h => h)
    have y9 := (Eff.of_below (S := fun _ => False) hb9).blk y8 (fun h => h)
    have B9 := B8.trans (hb9.mono B8.size)
    have C9 := C8.trans (hb9.mono C8.size)
    have hsf := sameF_any f g w9 (H0.out.1.on B9) (H0.out.2.1.on B9)
    rw [HD.out] at hsf
    refine hK.out _ _ ?_ (fun hHeld2 => ?_)
    · (try dsimp only); (first | exact HTW.out _ x6 y6 | exact HTW.out _ x7 y7 | exact HTW.out _ x8 y8 | exact HTW.out _ x9 y9 | exact HTW.out _ xA yA | exact HTW.out _ xB yB | exact HTW.out _ xC yC | exact HTW.out _ xD yD)
    clear hK K hHeld
    have hHeld := hHeld2
    clear hHeld2
    try simp only [Act.put, List.setIfInBounds_toArray, List.set_cons_zero, List.set_cons_succ]
    refine held_take 9 ?_ rfl (by kernel_rfl) (by kernel_rfl) (by kernel_rfl) (fun _ _ _ h => h) (by rfl) ?_ hHeld ?_
    rotate_left
    · (intro w hSw; (try dsimp only at hSw); go_simp; try with_reducible rfl)
    try simp only [Act.put, List.setIfInBounds_toArray, List.set_cons_zero, List.set_cons_succ]
    refine held_take 10 ?_ rfl (by kernel_rfl) (by kernel_rfl) (by kernel_rfl) (fun _ _ _ h => h) (by rfl) ?_ hHeld ?_
    rotate_left
    · (intro w hSw; (try dsimp only at hSw); go_simp; try with_reducible rfl)
    try simp only [Act.put, List.setIfInBounds_toArray, List.set_cons_zero, List.set_cons_succ]
    refine held_take 11 ?_ rfl (by kernel_rfl) (by kernel_rfl) (by kernel_rfl) (fun _ _ _ h => h) (by rfl) ?_ hHeld ?_
    rotate_left
    · (intro w hSw; (try dsimp only at hSw); go_simp; try with_reducible rfl)
    try simp only [Act.put, List.setIfInBounds_toArray, List.set_cons_zero, List.set_cons_succ]
    refine held_take 12 ?_ rfl (by kernel_rfl) (by kernel_rfl) (by kernel_rfl) (fun _ _ _ h => h) (by rfl) ?_ hHeld ?_
    rotate_left
    · (intro w hSw; (try dsimp only at hSw); go_simp; try with_reducible rfl)
    try simp only [Act.put, List.setIfInBounds_toArray, List.set_cons_zero, List.set_cons_succ]
    refine held_take 13 ?_ rfl (by kernel_rfl) (by kernel_rfl) (by kernel_rfl) (fun _ _ _ h => h) (by rfl) ?_ hHeld ?_
    rotate_left
    · (intro w hSw; (try dsimp only at hSw); go_simp; try with_reducible rfl)
    try simp only [Act.put, List.setIfInBounds_toArray, List.set_cons_zero, List.set_cons_succ]
    refine held_take 15 ?_ rfl (by kernel_rfl) (by kernel_rfl) (by kernel_rfl) (fun _ _ _ h => h) (by rfl) ?_ hHeld ?_
    rotate_left
    · (intro w hSw; (try dsimp only at hSw); go_simp; try with_reducible rfl)
    try simp only [Act.put, List.setIfInBounds_toArray, List.set_cons_zero, List.set_cons_succ]
    refine held_take 16 ?_ rfl (by kernel_rfl) (by kernel_rfl) (by kernel_rfl) (fun _ _ _ h => h) (by rfl) ?_ hHeld ?_
    rotate_left
    · (intro w hSw; (try dsimp only at hSw); go_simp; try with_reducible rfl)
    try simp only [Act.put, List.setIfInBounds_toArray, List.set_cons_zero, List.set_cons_succ]
    refine held_one 14 rfl (by kernel_rfl) (by rfl) (fun K hK => ?_)
    go_simp
    refine hsf.mono ?_
    rintro e wA ⟨rfl, hbA⟩
    have xA := (Eff.of_below (S := fun _ => False) hbA).blk x9 (fun h => h)
    have yA := (Eff.of_below (S := fun _ => False) hbA).blk y9 (fun h => h)
    have BA := B9.trans (hbA.mono B9.size)
    have CA := C9.trans (hbA.mono C9.size)
    have hsf2 := refSameF_any f g wA (H0.out.1.on BA) (H0.out.2.1.on BA)
    rw [HD.out] at hsf2
    refine hK.out _ _ ?_ (fun hHeld2 => ?_)
    · (try dsimp only); (first | exact HTW.out _ x6 y6 | exact HTW.out _ x7 y7 | exact HTW.out _ x8 y8 | exact HTW.out _ x9 y9 | exact HTW.out _ xA yA | exact HTW.out _ xB yB | exact HTW.out _ xC yC | exact HTW.out _ xD yD)
    clear hK K hHeld
    have hHeld := hHeld2
    clear hHeld2
    try simp only [Act.put, List.setIfInBounds_toArray, List.set_cons_zero, List.set_cons_succ]
    refine held_one 17 rfl (by kernel_rfl) (by rfl) (fun K hK => ?_)
    go_simp
    refine hsf2.mono ?_
    rintro e wB ⟨rfl, hbB⟩
    have xB := (Eff.of_below (S := fun _ => False) hbB).blk xA (fun h => h)
    have yB := (Eff.of_below (S := fun _ => False) hbB).blk yA (fun h => h)
    have BB := BA.trans (hbB.mono BA.size)
    have CB := CA.trans (hbB.mono CA.size)
    have hcl := clone_any f wB (H0.out.1.on BB) HLf.out
    refine hK.out _ _ ?_ (fun hHeld2 => ?_)
    · (try dsimp only); (first | exact HTW.out _ x6 y6 | exact HTW.out _ x7 y7 | exact HTW.out _ x8 y8 | exact HTW.out _ x9 y9 | exact HTW.out _ xA yA | exact HTW.out _ xB yB | exact HTW.out _ xC yC | exact HTW.out _ xD yD)
    clear hK K hHeld
    have hHeld := hHeld2
    clear hHeld2
    try simp only [Act.put, List.setIfInBounds_toArray, List.set_cons_zero, List.set_cons_succ]
    refine held_take 18 ?_ rfl (by kernel_rfl) (by kernel_rfl) (by kernel_rfl) (fun _ _ _ h => h) (by rfl) ?_ hHeld ?_
    rotate_left
    · (intro w hSw; (try dsimp only at hSw); go_simp; try with_reducible rfl)
    try simp only [Act.put, List.setIfInBounds_toArray, List.set_cons_zero, List.set_cons_succ]
    refine held_take 19 ?_ rfl (by kernel_rfl) (by kernel_rfl) (by kernel_rfl) (fun _ _ _ h => h) (by rfl) ?_ hHeld ?_
    rotate_left
    · (intro w hSw; (try dsimp only at hSw); go_simp; try with_reducible rfl)
    try simp only [Act.put, List.setIfInBounds_toArray, List.set_cons_zero, List.set_cons_succ]
    refine held_take 20 ?_ rfl (by kernel_rfl) (by kernel_rfl) (by kernel_rfl) (fun _ _ _ h => h) (by rfl) ?_ hHeld ?_
    rotate_left
    · (intro w hSw; (try dsimp only at hSw); go_simp; try with_reducible rfl)
    try simp only [Act.put, List.setIfInBounds_toArray, List.set_cons_zero, List.set_cons_succ]
    refine held_take 21 ?_ rfl (by kernel_rfl) (by kernel_rfl) (by kernel_rfl) (fun _ _ _ h => h) (by rfl) ?_ hHeld ?_
    rotate_left
    · (intro w hSw; (try dsimp only at hSw); go_simp; try with_reducible rfl)
    try simp only [Act.put, List.setIfInBounds_toArray, List.set_cons_zero, List.set_cons_succ]
    refine held_take 23 ?_ rfl (by kernel_rfl) (by kernel_rfl) (by kernel_rfl) (fun _ _ _ h => h) (by rfl) ?_ hHeld ?_
    rotate_left
    · (intro w hSw; (try dsimp only at hSw); go_simp; try with_reducible rfl)
    try simp only [Act.put, List.setIfInBounds_toArray, List.set_cons_zero, List.set_cons_succ]
    refine held_one 22 rfl (by kernel_rfl) (by rfl) (fun K hK => ?_)
    go_simp
    refine hcl.mono ?_
    rintro e wC ⟨MA', mc', EA', es', ec', rfl, hes, hro, hbC⟩
    have xC := (Eff.of_below (S := fun _ => False) hbC).blk xB (fun h => h)
    have yC := (Eff.of_below (S := fun _ => False) hbC).blk yB (fun h => h)
    have BC := BB.trans (hbC.mono BB.size)
    have CC := CB.trans (hbC.mono CB.size)
    have hsc := refSameF_any ⟨f.kind, f.fr, f.tt, f.life, f.seen, f.out, f.count, f.founder, f.hop, MA', f.ms, mc', EA', es', ec'⟩ f wC (hro.ok _ _ _ _ _ _ _ _ _) (H0.out.1.on BC)
    rw [decide_eq_true (show FrL.pl ⟨f.kind, f.fr, f.tt, f.life, f.seen, f.out, f.count, f.founder, f.hop, MA', f.ms, mc', EA', es', ec'⟩ = f.pl by simp only [FrL.pl, hes])] at hsc
    have HES := hid hes
    clear hes
    refine hK.out _ _ ?_ (fun hHeld2 => ?_)
    · (try dsimp only); (first | exact HTW.out _ x6 y6 | exact HTW.out _ x7 y7 | exact HTW.out _ x8 y8 | exact HTW.out _ x9 y9 | exact HTW.out _ xA yA | exact HTW.out _ xB yB | exact HTW.out _ xC yC | exact HTW.out _ xD yD)
    clear hK K hHeld
    have hHeld := hHeld2
    clear hHeld2
    try simp only [Act.put, List.setIfInBounds_toArray, List.set_cons_zero, List.set_cons_succ]
    refine held_one 24 rfl (by kernel_rfl) (by rfl) (fun K hK => ?_)
    go_simp
    refine hsc.mono ?_
    rintro e wD ⟨rfl, hbD⟩
    have xD := (Eff.of_below (S := fun _ => False) hbD).blk xC (fun h => h)
    have yD := (Eff.of_below (S := fun _ => False) hbD).blk yC (fun h => h)
    have BD := BC.trans (hbD.mono BC.size)
    have CD := CC.trans (hbD.mono CC.size)
    refine hK.out _ _ ?_ (fun hHeld2 => ?_)
    · (try dsimp only); (first | exact HTW.out _ x6 y6 | exact HTW.out _ x7 y7 | exact HTW.out _ x8 y8 | exact HTW.out _ x9 y9 | exact HTW.out _ xA yA | exact HTW.out _ xB yB | exact HTW.out _ xC yC | exact HTW.out _ xD yD)
    clear hK K hHeld
    have hHeld := hHeld2
    clear hHeld2
    try simp only [Act.put, List.setIfInBounds_toArray, List.set_cons_zero, List.set_cons_succ]
    refine held_take 25 ?_ rfl (by kernel_rfl) (by kernel_rfl) (by kernel_rfl) (fun _ _ _ h => h) (by rfl) ?_ hHeld ?_
    rotate_left
    · (intro w hSw; (try dsimp only at hSw); go_simp; try with_reducible rfl)
    try simp only [Act.put, List.setIfInBounds_toArray, List.set_cons_zero, List.set_cons_succ]
    refine held_take 26 ?_ rfl (by kernel_rfl) (by kernel_rfl) (by kernel_rfl) (fun _ _ _ h => h) (by rfl) ?_ hHeld ?_
    rotate_left
    · (intro w hSw; (try dsimp only at hSw); go_simp; try with_reducible rfl)
    try simp only [Act.put, List.setIfInBounds_toArray, List.set_cons_zero, List.set_cons_succ]
    refine wpAnyH_done (by kernel_rfl) ?_ _
    clear hHeld
    go_wp2_with fail
    go_meet
    exact ⟨rfl, xD, yD, BD, CD⟩
  case rest =>
  obtain ⟨rfl, x9, y9, B9, C9⟩ := hcut
  clear x6 y6 B6 hvl hdd HD
  go_upto_region 10 with (fail)
  go_cut [83] (fun v wx => v = .bool false ∧ Below w.heap.size w wx)
  case first =>
    by_cases hE0 : E = 0
    case pos =>
      subst hE0
      obtain ⟨rfl, hs6⟩ := HGB.out.1 rfl
      have hfb := refBytesF_any f wc HFE.out (hRf.on B9)
      have hlen := B_len HFE.out
      have c0 : wc.cell? ⟨w.heap.size, 0, none⟩ = some (.int .i64 f.kind) := x9.cell 0
      have c1 : wc.cell? ⟨w.heap.size, 1, none⟩ = some (.int .i64 f.fr) := x9.cell 1
      have c2 : wc.cell? ⟨w.heap.size, 2, none⟩ = some (.int .i64 f.tt) := x9.cell 2
      have c3 : wc.cell? ⟨w.heap.size, 3, none⟩ = some (.int .i64 f.life) := x9.cell 3
      have c4 : wc.cell? ⟨w.heap.size, 4, none⟩ = some (.int .i64 f.seen) := x9.cell 4
      have c5 : wc.cell? ⟨w.heap.size, 5, none⟩ = some (.bool f.out) := x9.cell 5
      have c6 : wc.cell? ⟨w.heap.size, 6, none⟩ = some (.int .i64 f.count) := x9.cell 6
      have c7 : wc.cell? ⟨w.heap.size, 7, none⟩ = some (.int .i64 f.founder) := x9.cell 7
      have c8 : wc.cell? ⟨w.heap.size, 8, none⟩ = some (.int .i64 f.hop) := x9.cell 8
      have c9 : wc.cell? ⟨w.heap.size, 9, none⟩ = some (.slice f.MA f.ms.length f.mc) := x9.cell 9
      have c10 : wc.cell? ⟨w.heap.size, 10, none⟩ = some (.slice f.EA f.es.length f.ec) := x9.cell 10
      have HS6 := hid (And.intro (It2 hs6 C9) (And.intro hlen B9))
      clear hs6 C9 hlen B9 x9 y9
      go_wp2_with fail
      refine hfb.mono ?_
      rintro e w10 ⟨A10, k10, rfl, hs10, hb10⟩
      have hsb := sameBytes_any A6 A10 k6 k10 f.B f.B w10 (It2 HS6.out.1 hb10) hs10 (by have := HS6.out.2.1; unfold maxLen; omega) (by have := HS6.out.2.1; unfold maxLen; omega)
      rw [decide_eq_true rfl] at hsb
      have HB10 := hid hb10
      clear hs10 hb10 hfb c0 c1 c2 c3 c4 c5 c6 c7 c8 c9 c10
      go_wp2_with fail
      refine hsb.mono ?_
      rintro e w11 ⟨rfl, q11, rfl⟩
      have hb11 := HB10.out.trans ((below_drewN (Below.refl w10.heap.size w10) q11).mono HB10.out.size)
      have HB11 := hid hb11
      clear hb11 hsb
      go_wp2_with fail
      go_meet
      exact ⟨rfl, HS6.out.2.2.trans (HB11.out.mono HS6.out.2.2.size)⟩
    case neg =>
      obtain rfl := HGB.out.2 hE0
      have hEb : (E == 0) = false := by rw [beq_eq_false_iff_ne]; exact hE0
      have hEc : (E != 0) = true := by simpa using hE0
      have HB9 := hid B9
      clear x9 y9 B9 C9 hE0
      go_wp2_with fail
      go_meet
      exact ⟨rfl, HB9.out⟩
  case rest =>
  obtain ⟨rfl, B10⟩ := hcut
  clear x9 y9 B9 C9 hRf hRg hbare
  have hrd := readF_any (ad := ad) A c bs wc (H0.out.2.2.2.2.read.below B10) (It2 H0.out.2.2.1 B10) H0.out.2.2.2.1 (by omega)
  go_upto_region 12 with (fail)
  go_wp2_with fail
  refine hrd.mono ?_
  rintro e w11 ⟨u, ev, rfl, ringu, hro, hb11⟩
  clear hrd
  go_upto_region 13 with (fail)
  have hb12 : Below w11.heap.size w11 (w11.alloc (.cells #[.int .i64 u.kind, .int .i64 u.fr, .int .i64 u.tt, .int .i64 u.life, .int .i64 u.seen, .bool u.out, .int .i64 u.count, .int .i64 u.founder, .int .i64 u.hop, .slice u.MA u.ms.length u.mc, .slice u.EA u.es.length u.ec] 64)) := (Below.refl _ _).alloc (Nat.le_refl _) _
  have u12 : Blk (w11.alloc (.cells #[.int .i64 u.kind, .int .i64 u.fr, .int .i64 u.tt, .int .i64 u.life, .int .i64 u.seen, .bool u.out, .int .i64 u.count, .int .i64 u.founder, .int .i64 u.hop, .slice u.MA u.ms.length u.mc, .slice u.EA u.es.length u.ec] 64)) w11.heap.size [.int .i64 u.kind, .int .i64 u.fr, .int .i64 u.tt, .int .i64 u.life, .int .i64 u.seen, .bool u.out, .int .i64 u.count, .int .i64 u.founder, .int .i64 u.hop, .slice u.MA u.ms.length u.mc, .slice u.EA u.es.length u.ec] 64 := Blk.new w11 _ _
  have B12 := (B10.trans (hb11.mono B10.size)).trans (hb12.mono (B10.trans (hb11.mono B10.size)).size)
  have ring12 := ringu.on hb12
  have hro12 := hro.on hb12
  generalize w11.alloc (.cells #[.int .i64 u.kind, .int .i64 u.fr, .int .i64 u.tt, .int .i64 u.life, .int .i64 u.seen, .bool u.out, .int .i64 u.count, .int .i64 u.founder, .int .i64 u.hop, .slice u.MA u.ms.length u.mc, .slice u.EA u.es.length u.ec] 64) = w12 at *
  generalize w11.heap.size = ub at *
  clear hb11 hb12 ringu hro B10
  have hrq := refReadF_any A c bs w12 (It2 H0.out.2.2.1 B12) H0.out.2.2.2.1 (by omega)
  go_wp2_with fail
  refine hrq.mono ?_
  rintro e w13 ⟨v, fc, fi, fp, rfl, ringv, hfo, hb13⟩
  clear hrq
  go_upto_region 14 with (fail)
  obtain ⟨w14, hw14⟩ : ∃ w14, w14 = (w13.alloc (.cells #[.int .i64 v.kind, .int .i64 v.fr, .int .i64 v.tt, .int .i64 v.life, .int .i64 v.seen, .bool v.out, .int .i64 v.count, .int .i64 v.founder, .int .i64 v.hop, .slice v.MA v.ms.length v.mc, .slice v.EA v.es.length v.ec] 64)).alloc (.cells #[.int .i64 fc, .bool fi, .int .i64 fp] 35) := ⟨_, rfl⟩
  have hb14 : Below w13.heap.size w13 w14 := by rw [hw14]; exact ((Below.refl _ _).alloc (Nat.le_refl _) _).alloc (by simp) _
  have v14 : Blk w14 w13.heap.size [.int .i64 v.kind, .int .i64 v.fr, .int .i64 v.tt, .int .i64 v.life, .int .i64 v.seen, .bool v.out, .int .i64 v.count, .int .i64 v.founder, .int .i64 v.hop, .slice v.MA v.ms.length v.mc, .slice v.EA v.es.length v.ec] 64 := by rw [hw14]; exact (Blk.new w13 _ _).alloc _
  have z14 : Blk w14 (w13.heap.size + 1) [.int .i64 fc, .bool fi, .int .i64 fp] 35 := by
    rw [hw14, show w13.heap.size + 1 = (w13.alloc (.cells #[.int .i64 v.kind, .int .i64 v.fr, .int .i64 v.tt, .int .i64 v.life, .int .i64 v.seen, .bool v.out, .int .i64 v.count, .int .i64 v.founder, .int .i64 v.hop, .slice v.MA v.ms.length v.mc, .slice v.EA v.es.length v.ec] 64)).heap.size from by simp]
    exact Blk.new _ _ _
  rw [← hw14]
  clear hw14
  have C14 := hb13.trans (hb14.mono hb13.size)
  have u14 := (Eff.of_below (S := fun _ => False) C14).blk u12 (fun h => h)
  have B14 := B12.trans (C14.mono B12.size)
  have hss := says_same (H0.out.2.2.2.2.below B14) (hro12.on C14) hfo (readR_rf bs)
  have HPL := hid hss.2
  have hss1 := hss.1
  have ru := ring12.on C14
  have rv := ringv.on hb14
  obtain ⟨fb, hfb⟩ : ∃ fb, fb = w13.heap.size + 1 := ⟨_, rfl⟩
  rw [← hfb] at z14 ⊢
  clear hfb
  generalize w13.heap.size = vb at *
  clear hss hro12 hfo hb13 hb14 C14 u12 ring12 ringv B12
  have e0 : w14.cell? ⟨fb, 0, none⟩ = some (.int .i64 fc) := z14.cell 0
  have e1 : w14.cell? ⟨fb, 1, none⟩ = some (.bool fi) := z14.cell 1
  have e2 : w14.cell? ⟨fb, 2, none⟩ = some (.int .i64 fp) := z14.cell 2
  go_wp2_with fail
  refine hss1.mono ?_
  rintro e w15 ⟨rfl, hb15⟩
  have u15 := (Eff.of_below (S := fun _ => False) hb15).blk u14 (fun h => h)
  have v15 := (Eff.of_below (S := fun _ => False) hb15).blk v14 (fun h => h)
  have B15 := B14.trans (hb15.mono B14.size)
  have hsf := refSameF_any u v w15 (ring_fr (ru.on hb15)) (ring_fr (rv.on hb15))
  rw [decide_eq_true HPL.out] at hsf
  clear hss1 u14 v14 z14 ru rv B14 hb15 e0 e1 e2
  have p0 : w15.cell? ⟨ub, 0, none⟩ = some (.int .i64 u.kind) := u15.cell 0
  have p1 : w15.cell? ⟨ub, 1, none⟩ = some (.int .i64 u.fr) := u15.cell 1
  have p2 : w15.cell? ⟨ub, 2, none⟩ = some (.int .i64 u.tt) := u15.cell 2
  have p3 : w15.cell? ⟨ub, 3, none⟩ = some (.int .i64 u.life) := u15.cell 3
  have p4 : w15.cell? ⟨ub, 4, none⟩ = some (.int .i64 u.seen) := u15.cell 4
  have p5 : w15.cell? ⟨ub, 5, none⟩ = some (.bool u.out) := u15.cell 5
  have p6 : w15.cell? ⟨ub, 6, none⟩ = some (.int .i64 u.count) := u15.cell 6
  have p7 : w15.cell? ⟨ub, 7, none⟩ = some (.int .i64 u.founder) := u15.cell 7
  have p8 : w15.cell? ⟨ub, 8, none⟩ = some (.int .i64 u.hop) := u15.cell 8
  have p9 : w15.cell? ⟨ub, 9, none⟩ = some (.slice u.MA u.ms.length u.mc) := u15.cell 9
  have p10 : w15.cell? ⟨ub, 10, none⟩ = some (.slice u.EA u.es.length u.ec) := u15.cell 10
  have q0 : w15.cell? ⟨vb, 0, none⟩ = some (.int .i64 v.kind) := v15.cell 0
  have q1 : w15.cell? ⟨vb, 1, none⟩ = some (.int .i64 v.fr) := v15.cell 1
  have q2 : w15.cell? ⟨vb, 2, none⟩ = some (.int .i64 v.tt) := v15.cell 2
  have q3 : w15.cell? ⟨vb, 3, none⟩ = some (.int .i64 v.life) := v15.cell 3
  have q4 : w15.cell? ⟨vb, 4, none⟩ = some (.int .i64 v.seen) := v15.cell 4
  have q5 : w15.cell? ⟨vb, 5, none⟩ = some (.bool v.out) := v15.cell 5
  have q6 : w15.cell? ⟨vb, 6, none⟩ = some (.int .i64 v.count) := v15.cell 6
  have q7 : w15.cell? ⟨vb, 7, none⟩ = some (.int .i64 v.founder) := v15.cell 7
  have q8 : w15.cell? ⟨vb, 8, none⟩ = some (.int .i64 v.hop) := v15.cell 8
  have q9 : w15.cell? ⟨vb, 9, none⟩ = some (.slice v.MA v.ms.length v.mc) := v15.cell 9
  have q10 : w15.cell? ⟨vb, 10, none⟩ = some (.slice v.EA v.es.length v.ec) := v15.cell 10
  go_wp2_with fail
  refine hsf.mono ?_
  rintro e w16 ⟨rfl, hb16⟩
  have B16 := B15.trans (hb16.mono B15.size)
  go_wp2_with fail
  go_ret
  exact ⟨rfl, B16⟩
end Go.Proofs.YtogcbiooddodlaaDoor
