/- Frames: Read of any bytes. -/
import Derived.Test.YtogcbiooddodlaaDoorFrameRingT
import Derived.Test.YtogcbiooddodlaaDoorLaidErrsV
namespace Go.Proofs.YtogcbiooddodlaaDoor
open Go.RowKit
set_option linter.unusedSimpArgs false

/-- A struct result that lies in a block, and another one beside it. -/
theorem ret_pair {P : Program} {fn : Func} {R : Ending → World → Prop} {a : Act} {w : World} {p q : Tmp} {ty : TypeId} (h : fn.results = #[.cell p ty, .tmp q]) (g : Nat) (cs : List Value) (E : TypeId) (d : TypeDesc) (v : Value)
    (hp : a.tmps.getD p undef = .pointer (some ⟨g, 0, none⟩)) (hq : a.tmps.getD q undef = v) (hb : Blk w g cs E) (hu : P.underlying ty = some d) (hd : isAggDesc d = true) (hi : (P.info? ty).map (·.size) = some cs.length) (hdf : a.defers = [])
    (hR : R (.returned (.tuple #[.agg cs.toArray, v])) w) : bodyPost P fn R .ret a w := by
  refine bodyPost_ret ?_ hdf hR
  have hp' : a.tmps[p]?.getD undef = .pointer (some ⟨g, 0, none⟩) := by simpa using hp
  have hq' : a.tmps[q]?.getD undef = v := by simpa using hq
  have hlv := run_loadVar_row (P := P) w g E ty cs.toArray (0, 0) d hb hu (by cases d <;> simp_all [isAggDesc]) (by simpa using hi)
  simp [results, h, hp', hq', asAddr, hlv]
theorem wp_store_agg {P : Program} {o : Oper} {a : Act} {K : Act → World → Prop} {Q : Exit → Act → World → Prop} {w : World} (ty : TypeId) (x y : Operand) (ho : o.op = .store ty x y) (g off : Nat) (hx : a.eval x = .pointer (some ⟨g, off, none⟩)) (vs : List Value)
    (hy : a.eval y = .agg vs.toArray) (cur : List Value) (E : TypeId) (hb : Blk w g cur E) (hfit : off + vs.length ≤ cur.length) (h1 : vs.all (fun u => u.oneCell') = true) (hi : (P.info? ty).map (·.size) = some vs.length)
    (h : ∀ w', Blk w' g (cur.take off ++ vs ++ cur.drop (off + vs.length)) E → Eff (· = g) w w' → w'.heap.size = w.heap.size → K (a.put o.dst undef) w') : o.wp P a w K Q := by
  have hsc := run_storeCells_at (P := P) g off E vs 0 cur.toArray w hb (by simpa using hfit) (List.all_eq_true.1 h1)
  have hsv : (storeVar ty ⟨g, off, none⟩ (.agg vs.toArray)).run P w = .ok () (w.setRow g (cur.toArray.toList.take (off + 0) ++ vs ++ cur.toArray.toList.drop (off + 0 + vs.length)).toArray) := by
    cases hq : P.info? ty with
    | none => simp [hq] at hi
    | some i =>
      have hs : i.size = vs.length := by simpa [hq] using hi
      simp [storeVar, Sem.run_bind, sizeOf, typeInfo, hq, hs, Value.cells]
      simpa using hsc
  unfold Oper.wp execOp
  simp only [ho, hx, hy, Instr.storeAt, Instr.sureAddr, Sem.run_bind, Sem.run_pure, Result.andThen_ok, hsv]
  refine h _ ?_ ⟨rfl, rfl, rfl, by simp, fun k _ hn => setRow_other w g k _ hn⟩ (by simp)
  have := setRow_heap w g cur.toArray (cur.toArray.toList.take (off + 0) ++ vs ++ cur.toArray.toList.drop (off + 0 + vs.length)).toArray E _ hb
  simpa [Blk] using this
def RingOff (MA EA : Option Addr) (es : List EntL) (b : Nat) : Prop := ∀ q, (MA = some q ∨ EA = some q ∨ ∃ y ∈ es, y.A = some q) → q.block ≠ b
theorem ring_keep {w w' : World} {MA EA : Option Addr} {ms : List Int} {es : List EntL} {b : Nat} (h : RingIs w MA ms EA es) (he : Eff (· = b) w w') (ho : RingOff MA EA es b) : RingIs w' MA ms EA es :=
  ⟨h.mem.eff he (fun a ha => ho a (.inl ha)), h.ent.eff he (fun a ha => ho a (.inr (.inl ha))), fun e hm => Sl.eff (h.bid e hm) he (fun a ha => ho a (.inr (.inr ⟨e, hm, ha⟩))), h.lens⟩
def zeroF : FrL := ⟨0, 0, 0, 0, 0, false, 0, 0, 0, none, [], 0, none, [], 0⟩
/-- What Read hands on: a frame, or an error and the zero one. -/
def ReadOut (ad : Int → Addr) (w' : World) (g : FrL) (ev : Value) : RF → Prop
  | .ok f => ev = .nilIface ∧ g.pl = f
  | .bare c => ev = errV ad c ∧ c ≠ 0 ∧ g = zeroF
  | .at c p => (∃ B, ev = .iface 106 (.pointer (some ⟨B, 0, none⟩)) ∧ Blk w' B [.int .i64 p, errV ad c] 108) ∧ g = zeroF
def GivesRead (ad : Int → Addr) (w : World) (R : RF) (e : Ending) (w' : World) : Prop := ∃ (g : FrL) (ev : Value), e = .returned (.tuple #[g.val, ev]) ∧ RingIs w' g.MA g.ms g.EA g.es ∧ ReadOut ad w' g ev R ∧ Below w.heap.size w w'
theorem read_zero {ad : Int → Addr} {w w' : World} {R : RF} {e : Ending} {ev : Value} (he : e = .returned (.tuple #[.agg (frameV 0 0 0 0 0 false 0 0 0 none 0 0 none 0 0), ev])) (hR : ReadOut ad w' zeroF ev R) (hB : Below w.heap.size w w') : GivesRead ad w R e w' := ⟨zeroF, ev, he, ring_nil w', hR, hB⟩
set_option maxRecDepth 100000 in
set_option maxHeartbeats 8000000 in
theorem readF_any {ad : Int → Addr} (A : Option Addr) (c : Nat) (bs : List Int) (w : World) (hE : ErrsF ad w) (hs : Sl w A (bs.map (Value.int .u8))) (hBb : IsB bs) (hl : bs.length ≤ 1000000) :
    Calls Tryd.prog 39 #[.slice A bs.length c] w (GivesRead ad w (readR bs)) := by
  obtain ⟨w1, hw1⟩ : ∃ w1, w1 = w.alloc (.cells (frameV 0 0 0 0 0 false 0 0 0 none 0 0 none 0 0) 64) := ⟨_, rfl⟩
  have hB1 : Below w.heap.size w w1 := by rw [hw1]; exact (Below.refl _ _).alloc (Nat.le_refl _) _
  have x1 : Blk w1 w.heap.size (frameL 0 0 0 0 0 false 0 0 0 none 0 0 none 0 0) 64 := by rw [hw1]; exact Blk.new w _ _
  have hs1 := It2 hs hB1
  have hE1 := hE.below hB1
  have hws : w.heap.size < w1.heap.size := x1.lt
  have HE := hid hE
  generalize hRR : readR bs = R
  unfold readR at hRR
  go_enter Tryd.func39, Tryd.ntmps39
  go_upto_region 1 with (fail)
  rw [← hw1]
  clear hw1 hE hs
  by_cases h1 : bs.length = 0 ∨ bs.getD 0 0 ≠ 80
  case pos =>
    rw [if_pos h1] at hRR
    have HRR := hid hRR
    clear hRR
    by_cases h0 : bs.length = 0
    · have hl0 : ((bs.length : Int) == 0) = true := by rw [beq_iff_eq]; omega
      clear h1 hE1 hs1
      have HX := hid (And.intro x1 hB1)
      have gd : w1.drew.cell? ⟨3, 0, none⟩ = some (.iface 136 (.pointer (some (ad 102)))) := (HE.out.below hB1).three.shape
      have hgl : (3 : Nat) ≠ w.heap.size := by have h : (3 : Nat) < w.heap.size := lt_of_cell HE.out.three.shape; omega
      clear x1 hB1
      go_wp2_with fail
      refine wp_region_held_drew (S := fun w' => w'.cell? ⟨3, 0, none⟩ = some (.iface 136 (.pointer (some (ad 102))))) (by kernel_rfl) ?_ (fun hHeld => ?_)
      · (try dsimp only); (first | exact gd | exact g99)
      refine held_take 0 ?_ rfl (by kernel_rfl) (by kernel_rfl) (by kernel_rfl) (fun _ _ _ h => h) (by rfl) ?_ hHeld ?_
      rotate_left
      · (intro w hSw; (try dsimp only at hSw); go_simp; try with_reducible rfl)
      try simp only [Act.put, List.setIfInBounds_toArray, List.set_cons_zero, List.set_cons_succ]
      refine held_take 1 ?_ rfl (by kernel_rfl) (by kernel_rfl) (by kernel_rfl) (fun _ _ _ h => h) (by rfl) ?_ hHeld ?_
      rotate_left
      · (intro w hSw; (try dsimp only at hSw); go_simp; try with_reducible rfl)
      try simp only [Act.put, List.setIfInBounds_toArray, List.set_cons_zero, List.set_cons_succ]
      refine held_one 2 rfl (by kernel_rfl) (by rfl) (fun K hK => ?_)
      refine wp_store_agg 64 _ _ rfl w.heap.size 0 rfl (frameL 0 0 0 0 0 false 0 0 0 none 0 0 none 0 0) rfl _ 64 HX.out.1.drew (by simp) rfl frame_info ?_
      intro w99 hx99 he99 hsz99
      have g99 := (he99.cell (lt_of_cell gd) hgl).trans gd
      have HX9 : Hid (Blk w99 w.heap.size (frameL 0 0 0 0 0 false 0 0 0 none 0 0 none 0 0) 64 ∧ Below w.heap.size w w99) := ⟨hx99, he99.below HX.out.2.drew HX.out.2.drew.size (fun i hi h => by omega)⟩
      clear hx99 he99 hsz99
      refine hK.out _ _ ?_ (fun hHeld2 => ?_)
      · (try dsimp only); (first | exact gd | exact g99)
      clear hK K hHeld
      have hHeld := hHeld2
      clear hHeld2
      try simp only [Act.put, List.setIfInBounds_toArray, List.set_cons_zero, List.set_cons_succ]
      refine held_take 3 ?_ rfl (by kernel_rfl) (by kernel_rfl) (by kernel_rfl) (fun _ _ _ h => h) (by rfl) ?_ hHeld ?_
      rotate_left
      · (intro w hSw; (try dsimp only at hSw); go_simp; try with_reducible rfl)
      try simp only [Act.put, List.setIfInBounds_toArray, List.set_cons_zero, List.set_cons_succ]
      refine wpAnyH_done (by kernel_rfl) ?_ _
      clear hHeld
      go_wp2_with fail
      try simp only [Exit.inBlock, Exit.then]
      refine ret_pair Tryd.results39 w.heap.size (frameL 0 0 0 0 0 false 0 0 0 none 0 0 none 0 0) 64 _ (.iface 136 (.pointer (some (ad 102)))) (by rfl) (by rfl) HX9.out.1 Tryd.underlying64 rfl frame_info (by rfl) ?_
      rw [← HRR.out]
      exact read_zero rfl ⟨rfl, by decide, rfl⟩ HX9.out.2
    · have hl0 : ((bs.length : Int) == 0) = false := by rw [beq_eq_false_iff_ne]; omega
      obtain ⟨b0, o0, rfl, hbw, hcx⟩ := hs1.at (by rw [List.length_map]; omega)
      have d0 : w1.cell? ⟨b0, o0, none⟩ = some (.int .u8 (bs.getD 0 0)) := (hcx 0 (by rw [List.length_map]; omega)).trans (getD_u8 (by omega))
      have h80 : bs.getD 0 0 ≠ 80 := by omega
      have hli : (0 : Int) < bs.length := by omega
      obtain ⟨y, hy⟩ : ∃ y, bs.getD 0 0 = y := ⟨_, rfl⟩
      rw [hy] at d0 h80
      have hyb : (y != 80) = true := by simpa using h80
      clear h1 hE1 hs1 hcx hy h80
      have HX := hid (And.intro x1 hB1)
      have gd : w1.drew.cell? ⟨3, 0, none⟩ = some (.iface 136 (.pointer (some (ad 102)))) := (HE.out.below hB1).three.shape
      have hgl : (3 : Nat) ≠ w.heap.size := by have h : (3 : Nat) < w.heap.size := lt_of_cell HE.out.three.shape; omega
      clear x1 hB1
      go_wp2_with fail
      refine wp_region_held_drew (S := fun w' => w'.cell? ⟨3, 0, none⟩ = some (.iface 136 (.pointer (some (ad 102))))) (by kernel_rfl) ?_ (fun hHeld => ?_)
      · (try dsimp only); (first | exact gd | exact g99)
      refine held_take 0 ?_ rfl (by kernel_rfl) (by kernel_rfl) (by kernel_rfl) (fun _ _ _ h => h) (by rfl) ?_ hHeld ?_
      rotate_left
      · (intro w hSw; (try dsimp only at hSw); go_simp; try with_reducible rfl)
      try simp only [Act.put, List.setIfInBounds_toArray, List.set_cons_zero, List.set_cons_succ]
      refine held_take 1 ?_ rfl (by kernel_rfl) (by kernel_rfl) (by kernel_rfl) (fun _ _ _ h => h) (by rfl) ?_ hHeld ?_
      rotate_left
      · (intro w hSw; (try dsimp only at hSw); go_simp; try with_reducible rfl)
      try simp only [Act.put, List.setIfInBounds_toArray, List.set_cons_zero, List.set_cons_succ]
      refine held_one 2 rfl (by kernel_rfl) (by rfl) (fun K hK => ?_)
      refine wp_store_agg 64 _ _ rfl w.heap.size 0 rfl (frameL 0 0 0 0 0 false 0 0 0 none 0 0 none 0 0) rfl _ 64 HX.out.1.drew (by simp) rfl frame_info ?_
      intro w99 hx99 he99 hsz99
      have g99 := (he99.cell (lt_of_cell gd) hgl).trans gd
      have HX9 : Hid (Blk w99 w.heap.size (frameL 0 0 0 0 0 false 0 0 0 none 0 0 none 0 0) 64 ∧ Below w.heap.size w w99) := ⟨hx99, he99.below HX.out.2.drew HX.out.2.drew.size (fun i hi h => by omega)⟩
      clear hx99 he99 hsz99
      refine hK.out _ _ ?_ (fun hHeld2 => ?_)
      · (try dsimp only); (first | exact gd | exact g99)
      clear hK K hHeld
      have hHeld := hHeld2
      clear hHeld2
      try simp only [Act.put, List.setIfInBounds_toArray, List.set_cons_zero, List.set_cons_succ]
      refine held_take 3 ?_ rfl (by kernel_rfl) (by kernel_rfl) (by kernel_rfl) (fun _ _ _ h => h) (by rfl) ?_ hHeld ?_
      rotate_left
      · (intro w hSw; (try dsimp only at hSw); go_simp; try with_reducible rfl)
      try simp only [Act.put, List.setIfInBounds_toArray, List.set_cons_zero, List.set_cons_succ]
      refine wpAnyH_done (by kernel_rfl) ?_ _
      clear hHeld
      go_wp2_with fail
      try simp only [Exit.inBlock, Exit.then]
      refine ret_pair Tryd.results39 w.heap.size (frameL 0 0 0 0 0 false 0 0 0 none 0 0 none 0 0) 64 _ (.iface 136 (.pointer (some (ad 102)))) (by rfl) (by rfl) HX9.out.1 Tryd.underlying64 rfl frame_info (by rfl) ?_
      rw [← HRR.out]
      exact read_zero rfl ⟨rfl, by decide, rfl⟩ HX9.out.2
  rw [if_neg h1] at hRR
  have hl1 : 1 ≤ bs.length := by omega
  have h80 : bs.getD 0 0 = 80 := by omega
  have hl0 : ((bs.length : Int) == 0) = false := by rw [beq_eq_false_iff_ne]; omega
  have hli : (0 : Int) < bs.length := by omega
  obtain ⟨b0, o0, hA0, hbw, hcx⟩ := hs1.at (by rw [List.length_map]; omega)
  obtain rfl : A = _ := hA0
  have d0 : w1.cell? ⟨b0, o0, none⟩ = some (.int .u8 80) := (hcx 0 (by rw [List.length_map]; omega)).trans ((getD_u8 (by omega)).trans (by rw [h80]))
  by_cases h2 : bs.length < 2
  case pos =>
    rw [if_pos (.inl h2)] at hRR
    have HRR := hid hRR
    have h2' : (bs.length : Int) < 2 := by omega
    clear hRR h1 hE1 hs1 hcx h80 h2
    have HX := hid (And.intro x1 hB1)
    have gd : w1.drew.cell? ⟨2, 0, none⟩ = some (.iface 136 (.pointer (some (ad 107)))) := (HE.out.below hB1).valid.kind
    have hgl : (2 : Nat) ≠ w.heap.size := by have h : (2 : Nat) < w.heap.size := lt_of_cell HE.out.valid.kind; omega
    clear x1 hB1
    go_wp2_with fail
    refine wp_region_held_drew (S := fun w' => w'.cell? ⟨2, 0, none⟩ = some (.iface 136 (.pointer (some (ad 107))))) (by kernel_rfl) ?_ (fun hHeld => ?_)
    · (try dsimp only); (first | exact gd | exact g99)
    refine held_take 0 ?_ rfl (by kernel_rfl) (by kernel_rfl) (by kernel_rfl) (fun _ _ _ h => h) (by rfl) ?_ hHeld ?_
    rotate_left
    · (intro w hSw; (try dsimp only at hSw); go_simp; try with_reducible rfl)
    try simp only [Act.put, List.setIfInBounds_toArray, List.set_cons_zero, List.set_cons_succ]
    refine held_take 1 ?_ rfl (by kernel_rfl) (by kernel_rfl) (by kernel_rfl) (fun _ _ _ h => h) (by rfl) ?_ hHeld ?_
    rotate_left
    · (intro w hSw; (try dsimp only at hSw); go_simp; try with_reducible rfl)
    try simp only [Act.put, List.setIfInBounds_toArray, List.set_cons_zero, List.set_cons_succ]
    refine held_one 2 rfl (by kernel_rfl) (by rfl) (fun K hK => ?_)
    refine wp_store_agg 64 _ _ rfl w.heap.size 0 rfl (frameL 0 0 0 0 0 false 0 0 0 none 0 0 none 0 0) rfl _ 64 HX.out.1.drew (by simp) rfl frame_info ?_
    intro w99 hx99 he99 hsz99
    have g99 := (he99.cell (lt_of_cell gd) hgl).trans gd
    have HX9 : Hid (Blk w99 w.heap.size (frameL 0 0 0 0 0 false 0 0 0 none 0 0 none 0 0) 64 ∧ Below w.heap.size w w99) := ⟨hx99, he99.below HX.out.2.drew HX.out.2.drew.size (fun i hi h => by omega)⟩
    clear hx99 he99 hsz99
    refine hK.out _ _ ?_ (fun hHeld2 => ?_)
    · (try dsimp only); (first | exact gd | exact g99)
    clear hK K hHeld
    have hHeld := hHeld2
    clear hHeld2
    try simp only [Act.put, List.setIfInBounds_toArray, List.set_cons_zero, List.set_cons_succ]
    refine held_take 3 ?_ rfl (by kernel_rfl) (by kernel_rfl) (by kernel_rfl) (fun _ _ _ h => h) (by rfl) ?_ hHeld ?_
    rotate_left
    · (intro w hSw; (try dsimp only at hSw); go_simp; try with_reducible rfl)
    try simp only [Act.put, List.setIfInBounds_toArray, List.set_cons_zero, List.set_cons_succ]
    refine wpAnyH_done (by kernel_rfl) ?_ _
    clear hHeld
    go_wp2_with fail
    try simp only [Exit.inBlock, Exit.then]
    refine ret_pair Tryd.results39 w.heap.size (frameL 0 0 0 0 0 false 0 0 0 none 0 0 none 0 0) 64 _ (.iface 136 (.pointer (some (ad 107)))) (by rfl) (by rfl) HX9.out.1 Tryd.underlying64 rfl frame_info (by rfl) ?_
    rw [← HRR.out]
    exact read_zero rfl ⟨rfl, by decide, rfl⟩ HX9.out.2
  have h2' : ¬ (bs.length : Int) < 2 := by omega
  have hli1 : (1 : Int) < bs.length := by omega
  have d1 : w1.cell? ⟨b0, o0 + 1, none⟩ = some (.int .u8 (bs.getD 1 0)) := (hcx 1 (by rw [List.length_map]; omega)).trans (getD_u8 (by omega))
  by_cases h3 : bs.getD 1 0 ≠ 1 ∧ bs.getD 1 0 ≠ 2
  case pos =>
    rw [if_pos (.inr h3)] at hRR
    have HRR := hid hRR
    obtain ⟨y, hy⟩ : ∃ y, bs.getD 1 0 = y := ⟨_, rfl⟩
    rw [hy] at d1 h3
    have hy1 : (y != 1) = true := by simpa using h3.1
    have hy2 : (y != 2) = true := by simpa using h3.2
    clear hRR h1 hE1 hs1 hcx h80 h2 hy h3
    have HX := hid (And.intro x1 hB1)
    have gd : w1.drew.cell? ⟨2, 0, none⟩ = some (.iface 136 (.pointer (some (ad 107)))) := (HE.out.below hB1).valid.kind
    have hgl : (2 : Nat) ≠ w.heap.size := by have h : (2 : Nat) < w.heap.size := lt_of_cell HE.out.valid.kind; omega
    clear x1 hB1
    go_wp2_with fail
    refine wp_region_held_drew (S := fun w' => w'.cell? ⟨2, 0, none⟩ = some (.iface 136 (.pointer (some (ad 107))))) (by kernel_rfl) ?_ (fun hHeld => ?_)
    · (try dsimp only); (first | exact gd | exact g99)
    refine held_take 0 ?_ rfl (by kernel_rfl) (by kernel_rfl) (by kernel_rfl) (fun _ _ _ h => h) (by rfl) ?_ hHeld ?_
    rotate_left
    · (intro w hSw; (try dsimp only at hSw); go_simp; try with_reducible rfl)
    try simp only [Act.put, List.setIfInBounds_toArray, List.set_cons_zero, List.set_cons_succ]
    refine held_take 1 ?_ rfl (by kernel_rfl) (by kernel_rfl) (by kernel_rfl) (fun _ _ _ h => h) (by rfl) ?_ hHeld ?_
    rotate_left
    · (intro w hSw; (try dsimp only at hSw); go_simp; try with_reducible rfl)
    try simp only [Act.put, List.setIfInBounds_toArray, List.set_cons_zero, List.set_cons_succ]
    refine held_one 2 rfl (by kernel_rfl) (by rfl) (fun K hK => ?_)
    refine wp_store_agg 64 _ _ rfl w.heap.size 0 rfl (frameL 0 0 0 0 0 false 0 0 0 none 0 0 none 0 0) rfl _ 64 HX.out.1.drew (by simp) rfl frame_info ?_
    intro w99 hx99 he99 hsz99
    have g99 := (he99.cell (lt_of_cell gd) hgl).trans gd
    have HX9 : Hid (Blk w99 w.heap.size (frameL 0 0 0 0 0 false 0 0 0 none 0 0 none 0 0) 64 ∧ Below w.heap.size w w99) := ⟨hx99, he99.below HX.out.2.drew HX.out.2.drew.size (fun i hi h => by omega)⟩
    clear hx99 he99 hsz99
    refine hK.out _ _ ?_ (fun hHeld2 => ?_)
    · (try dsimp only); (first | exact gd | exact g99)
    clear hK K hHeld
    have hHeld := hHeld2
    clear hHeld2
    try simp only [Act.put, List.setIfInBounds_toArray, List.set_cons_zero, List.set_cons_succ]
    refine held_take 3 ?_ rfl (by kernel_rfl) (by kernel_rfl) (by kernel_rfl) (fun _ _ _ h => h) (by rfl) ?_ hHeld ?_
    rotate_left
    · (intro w hSw; (try dsimp only at hSw); go_simp; try with_reducible rfl)
    try simp only [Act.put, List.setIfInBounds_toArray, List.set_cons_zero, List.set_cons_succ]
    refine wpAnyH_done (by kernel_rfl) ?_ _
    clear hHeld
    go_wp2_with fail
    try simp only [Exit.inBlock, Exit.then]
    refine ret_pair Tryd.results39 w.heap.size (frameL 0 0 0 0 0 false 0 0 0 none 0 0 none 0 0) 64 _ (.iface 136 (.pointer (some (ad 107)))) (by rfl) (by rfl) HX9.out.1 Tryd.underlying64 rfl frame_info (by rfl) ?_
    rw [← HRR.out]
    exact read_zero rfl ⟨rfl, by decide, rfl⟩ HX9.out.2
  rw [if_neg (by omega)] at hRR
  have hbs := two_drop h2 h80 (y := bs.getD 1 0) rfl
  have hnr := newReader_any (some ⟨b0, o0, none⟩) c bs w1 hs1 hl hBb
  have hk : bs.getD 1 0 = 1 ∨ bs.getD 1 0 = 2 := by omega
  clear h1 h3 hE1 hcx h80
  rcases hk with hk | hk
  · rw [if_pos hk] at hRR
    rw [hk] at d1 hbs
    have HS := hid (show numS bs 40 40 (0, none) = (40, (1, none)) ∧ numS bs (-1) 1 (1, none) = ((-1), (2, none)) from by
      constructor
      · refine num_in (by unfold inI; omega) ⟨rfl, rfl, by show 1 ≤ bs.length; omega, by simp [cat, form_40], ?_⟩ (by omega) (by omega)
        rw [hbs]
        simp [cat, form_40]
      · refine num_in (by unfold inI; omega) ⟨rfl, rfl, by show 2 ≤ bs.length; omega, by simp [cat, form_1], ?_⟩ (by omega) (by omega)
        rw [hbs]
        simp [cat, form_1])
    have HRR := hid hRR
    clear hRR hbs hk h2 hl1
    go_wp2_with fail
    refine hnr.mono ?_
    rintro e w2 ⟨r, rfl, hR2, hr2, hb2⟩
    have hB2 := hB1.trans (hb2.mono hB1.size)
    have hrW : w.heap.size ≤ r := Nat.le_trans hB1.size hr2
    have d1' : w2.cell? ⟨b0, o0 + 1, none⟩ = some (.int .u8 1) := (hb2.cell (p := ⟨b0, o0 + 1, none⟩) hbw).trans d1
    have v2 := (Eff.of_below (S := fun _ => False) hb2).blk x1 (fun h => h)
    have hrne : r ≠ w.heap.size := by omega
    have hrl : r < w2.heap.size := by obtain ⟨_, _, h, _⟩ := hR2.blk; exact h.lt
    generalize w1.heap.size = lo at *
    clear hnr hb2 d0 d1 x1 hs1 hbw hB1
    go_upto_region 7 with (fail)
    have hb3 : Below w2.heap.size w2 (w2.alloc (.cells #[.int .i64 1, .int .i64 0, .int .i64 0, .int .i64 0, .int .i64 0, .bool false, .int .i64 0, .int .i64 0, .int .i64 0, .slice none 0 0, .slice none 0 0] 64)) := (Below.refl _ _).alloc (Nat.le_refl _) _
    have f3 : Blk (w2.alloc (.cells #[.int .i64 1, .int .i64 0, .int .i64 0, .int .i64 0, .int .i64 0, .bool false, .int .i64 0, .int .i64 0, .int .i64 0, .slice none 0 0, .slice none 0 0] 64)) w2.heap.size [.int .i64 1, .int .i64 0, .int .i64 0, .int .i64 0, .int .i64 0, .bool false, .int .i64 0, .int .i64 0, .int .i64 0, .slice none 0 0, .slice none 0 0] 64 := Blk.new w2 _ _
    have v3 := (Eff.of_below (S := fun _ => False) hb3).blk v2 (fun h => h)
    have s3 : RdSt ad w (w2.alloc (.cells #[.int .i64 1, .int .i64 0, .int .i64 0, .int .i64 0, .int .i64 0, .bool false, .int .i64 0, .int .i64 0, .int .i64 0, .slice none 0 0, .slice none 0 0] 64)) lo r bs (0, none) := ⟨⟨.nilIface, hR2.on hb3, rfl⟩, hB2.trans (hb3.mono hB2.size)⟩
    have hW2 := hB2.size
    generalize w2.alloc (.cells #[.int .i64 1, .int .i64 0, .int .i64 0, .int .i64 0, .int .i64 0, .bool false, .int .i64 0, .int .i64 0, .int .i64 0, .slice none 0 0, .slice none 0 0] 64) = w3 at *
    generalize w2.heap.size = tf at *
    have htf1 : w.heap.size ≠ tf := by omega
    have htfr : r < tf := hrl
    clear hR2 v2 hb3 hB2 d1'
    have q1 := num_step 40 40 HE.out.three hrW s3
    rw [HS.out.1] at q1
    go_wp2_with fail
    refine q1.mono ?_
    rintro e w4 ⟨rfl, s4, t4⟩
    have f4 := t4.blk f3 (fun h => by omega)
    have v4 := t4.blk v3 (fun h => hrne h.symm)
    clear q1 s3 f3 v3 t4
    have q1 := num_step (-1) 1 HE.out.three hrW s4
    rw [HS.out.2] at q1
    go_wp2_with fail
    refine q1.mono ?_
    rintro e w5 ⟨rfl, s5, t5⟩
    have f5 := t5.blk f4 (fun h => by omega)
    have v5 := t5.blk v4 (fun h => hrne h.symm)
    clear q1 s4 f4 v4 t5
    have q1 := num_step 0 15 HE.out.three hrW s5
    obtain ⟨ff, hff⟩ : ∃ ff, numS bs 0 15 (2, none) = ff := ⟨_, rfl⟩
    rw [hff] at q1
    go_wp2_with fail
    refine q1.mono ?_
    rintro e w6 ⟨rfl, s6, t6⟩
    have f6 := t6.blk f5 (fun h => by omega)
    have v6 := t6.blk v5 (fun h => hrne h.symm)
    clear q1 s5 f5 v5 t6
    have q1 := num_step 0 15 HE.out.three hrW s6
    obtain ⟨ft, hft⟩ : ∃ ft, numS bs 0 15 ff.2 = ft := ⟨_, rfl⟩
    rw [hft] at q1
    go_wp2_with fail
    refine q1.mono ?_
    rintro e w7 ⟨rfl, s7, t7⟩
    have f7 := t7.blk f6 (fun h => by omega)
    have v7 := t7.blk v6 (fun h => hrne h.symm)
    clear q1 s6 f6 v6 t7
    have c1 : w7.cell? ⟨tf, 1, none⟩ = some (.int .i64 0) := f7.cell 1
    have c2 : w7.cell? ⟨tf, 2, none⟩ = some (.int .i64 0) := f7.cell 2
    have hff : ∀ o, w7.frozen? ⟨tf, o, none⟩ = false := f7.frozen
    have t8 : Eff (· = tf) w7 (((w7).setCell ⟨tf, 1, none⟩ (.int .i64 ff.1)).setCell ⟨tf, 2, none⟩ (.int .i64 ft.1)) := (((Eff.one tf w7)).set 1 (.int .i64 ff.1)).set 2 (.int .i64 ft.1)
    have s8 : RdSt ad w (((w7).setCell ⟨tf, 1, none⟩ (.int .i64 ff.1)).setCell ⟨tf, 2, none⟩ (.int .i64 ft.1)) lo r bs ft.2 := s7.set (by omega) htfr hW2 (by decide) f7 t8
    have f8 := ((f7).set 1 (.int .i64 ff.1)).set 2 (.int .i64 ft.1)
    have v8 := t8.blk v7 (fun h => htf1 h)
    clear s7 f7 v7 t8
    go_upto_region 10 with (fail)
    generalize ((w7).setCell ⟨tf, 1, none⟩ (.int .i64 ff.1)).setCell ⟨tf, 2, none⟩ (.int .i64 ft.1) = w8 at *
    clear hff c1 c2
    have c0 : w8.cell? ⟨tf, 0, none⟩ = some (.int .i64 1) := f8.cell 0
    have q1 := num_step 0 281474976710655 HE.out.three hrW s8
    obtain ⟨fl, hfl⟩ : ∃ fl, numS bs 0 281474976710655 ft.2 = fl := ⟨_, rfl⟩
    rw [hfl] at q1
    go_wp2_with fail
    refine q1.mono ?_
    rintro e w9 ⟨rfl, s9, t9⟩
    have f9 := t9.blk f8 (fun h => by omega)
    have v9 := t9.blk v8 (fun h => hrne h.symm)
    clear q1 s8 f8 v8 t9
    clear c0
    have q1 := num_step 0 281474976710655 HE.out.three hrW s9
    obtain ⟨fs, hfs⟩ : ∃ fs, numS bs 0 281474976710655 fl.2 = fs := ⟨_, rfl⟩
    rw [hfs] at q1
    go_wp2_with fail
    refine q1.mono ?_
    rintro e w10 ⟨rfl, s10, t10⟩
    have f10 := t10.blk f9 (fun h => by omega)
    have v10 := t10.blk v9 (fun h => hrne h.symm)
    clear q1 s9 f9 v9 t10
    have c3 : w10.cell? ⟨tf, 3, none⟩ = some (.int .i64 0) := f10.cell 3
    have c4 : w10.cell? ⟨tf, 4, none⟩ = some (.int .i64 0) := f10.cell 4
    have hff : ∀ o, w10.frozen? ⟨tf, o, none⟩ = false := f10.frozen
    have t11 : Eff (· = tf) w10 (((w10).setCell ⟨tf, 3, none⟩ (.int .i64 fl.1)).setCell ⟨tf, 4, none⟩ (.int .i64 fs.1)) := (((Eff.one tf w10)).set 3 (.int .i64 fl.1)).set 4 (.int .i64 fs.1)
    have s11 : RdSt ad w (((w10).setCell ⟨tf, 3, none⟩ (.int .i64 fl.1)).setCell ⟨tf, 4, none⟩ (.int .i64 fs.1)) lo r bs fs.2 := s10.set (by omega) htfr hW2 (by decide) f10 t11
    have f11 := ((f10).set 3 (.int .i64 fl.1)).set 4 (.int .i64 fs.1)
    have v11 := t11.blk v10 (fun h => htf1 h)
    clear s10 f10 v10 t11
    go_upto_region 12 with (fail)
    generalize ((w10).setCell ⟨tf, 3, none⟩ (.int .i64 fl.1)).setCell ⟨tf, 4, none⟩ (.int .i64 fs.1) = w11 at *
    clear hff c3 c4
    have q1 := bool_any (ad := ad) w11 ((HE.out.three).below s11.below) s11.rd
    obtain ⟨fo, hfo⟩ : ∃ fo, numS bs 0 1 fs.2 = fo := ⟨_, rfl⟩
    rw [show numR bs 0 1 fs.2.1 fs.2.2 = fo from hfo] at q1
    go_wp2_with fail
    refine q1.mono ?_
    rintro e w12 ⟨rfl, hrd, t12⟩
    have s12 : RdSt ad w w12 lo r bs fo.2 := ⟨hrd, t12.below s11.below s11.below.size (fun i hi h => by omega)⟩
    have f12 := t12.blk f11 (fun h => by omega)
    have v12 := t12.blk v11 (fun h => hrne h.symm)
    clear q1 s11 f11 v11 t12 hrd
    have c5 : w12.cell? ⟨tf, 5, none⟩ = some (.bool false) := f12.cell 5
    have hff : ∀ o, w12.frozen? ⟨tf, o, none⟩ = false := f12.frozen
    have t13 : Eff (· = tf) w12 ((w12).setCell ⟨tf, 5, none⟩ (.bool (fo.1 == 1))) := ((Eff.one tf w12)).set 5 (.bool (fo.1 == 1))
    have s13 : RdSt ad w ((w12).setCell ⟨tf, 5, none⟩ (.bool (fo.1 == 1))) lo r bs fo.2 := s12.set (by omega) htfr hW2 (by decide) f12 t13
    have f13 := (f12).set 5 (.bool (fo.1 == 1))
    have v13 := t13.blk v12 (fun h => htf1 h)
    clear s12 f12 v12 t13
    go_upto_region 14 with (fail)
    generalize (w12).setCell ⟨tf, 5, none⟩ (.bool (fo.1 == 1)) = w13 at *
    clear hff c5
    have HXX : Hid (beatR bs (2, none) = ((1, ff.1, ft.1, fl.1, fs.1, fo.1 == 1, 0, 0, 0, [], []), fo.2)) := by rw [Hid, beatR]; simp only [hff, hft, hfl, hfs, hfo]
    have hring : RingIs w13 none [] none [] := ring_nil _
    have htkr : RingOff none none [] w.heap.size := fun q hq => by
      rcases hq with hq | hq | ⟨_, hq, _⟩
      all_goals cases hq
    have fF : Blk w13 tf (frameL 1 ff.1 ft.1 fl.1 fs.1 (fo.1 == 1) 0 0 0 none 0 0 none 0 0) 64 := f13
    obtain ⟨S, hS⟩ : ∃ S, fo.2 = S := ⟨_, rfl⟩
    have HRX := hid (HRR.out.symm.trans (by rw [HXX.out, hS]))
    rw [hS] at s13
    obtain ⟨pp, oo⟩ := S
    obtain ⟨ev, hR, hErr⟩ := s13.rd
    have hBn := s13.below
    have hqe := errOf_any w13 hR
    have HK := hid (And.intro fF (And.intro v13 (And.intro hring hBn)))
    clear hS fF f13 hring hBn HRR
    cases oo with
    | some ep =>
      obtain ⟨ec, eq⟩ := ep
      obtain ⟨B, rfl, hBk, hBr⟩ := hErr
      have hBres : B ≠ w.heap.size := hBk.type_ne v13 (by decide)
      have HBK := hid hBk
      clear hBk hBr v13 s13
      go_wp2_with fail
      refine hqe.mono ?_
      rintro e w' ⟨rfl, rfl⟩
      go_wp2_with fail
      refine hqe.mono ?_
      rintro e w' ⟨rfl, rfl⟩
      go_wp2_with (refine wpList_store_agg rfl 64 _ _ rfl w.heap.size 0 rfl (frameL 0 0 0 0 0 false 0 0 0 none 0 0 none 0 0) rfl _ 64 HK.out.2.1 (by simp) rfl frame_info ?_; intro w99 hx99 he99 hsz99; have HX9 : Hid (Blk w99 w.heap.size (frameL 0 0 0 0 0 false 0 0 0 none 0 0 none 0 0) 64 ∧ Eff (· = w.heap.size) w13 w99) := ⟨hx99, he99⟩; clear hx99 he99 hsz99)
      try simp only [Exit.inBlock, Exit.then]
      refine ret_pair Tryd.results39 w.heap.size (frameL 0 0 0 0 0 false 0 0 0 none 0 0 none 0 0) 64 _ (.iface 106 (.pointer (some ⟨B, 0, none⟩))) (by rfl) (by rfl) HX9.out.1 Tryd.underlying64 rfl frame_info (by rfl) ?_
      rw [HRX.out]
      exact read_zero rfl ⟨⟨B, rfl, HX9.out.2.blk HBK.out hBres⟩, rfl⟩ (HX9.out.2.below HK.out.2.2.2 HK.out.2.2.2.size (fun i hi h => by omega))
    | none =>
    have hErr : ev = .nilIface := hErr
    subst hErr
    have hle := left_any w13 hR
    go_wp2_with fail
    refine hqe.mono ?_
    rintro e w' ⟨rfl, rfl⟩
    go_wp2_with fail
    refine hle.mono ?_
    rintro e w' ⟨rfl, dq, rfl⟩
    have hbd := below_drewN (Below.refl w13.heap.size w13) dq
    have v50 := (Eff.of_below (S := fun _ => False) hbd).blk HK.out.2.1 (fun h => h)
    have f50 := (Eff.of_below (S := fun _ => False) hbd).blk HK.out.1 (fun h => h)
    have B50 := HK.out.2.2.2.trans (hbd.mono HK.out.2.2.2.size)
    have r50 := HK.out.2.2.1.on hbd
    clear hle hqe hR v13 s13 hbd
    generalize w13.drewN dq = w50 at *
    by_cases hlt : pp < bs.length
    case pos =>
      have hlt' : (0 : Int) < bs.length - pp := by omega
      have HRR : Hid (RF.bare 102 = R) := by rw [Hid, HRX.out]; unfold endR; simp only; rw [if_pos hlt]
      clear hlt HRX f50 r50
      have HX := hid (And.intro v50 B50)
      have gd : w50.drew.cell? ⟨3, 0, none⟩ = some (.iface 136 (.pointer (some (ad 102)))) := (HE.out.below B50).three.shape
      have hgl : (3 : Nat) ≠ w.heap.size := by have h : (3 : Nat) < w.heap.size := lt_of_cell HE.out.three.shape; omega
      clear v50 B50
      go_wp2_with fail
      refine wp_region_held_drew (S := fun w' => w'.cell? ⟨3, 0, none⟩ = some (.iface 136 (.pointer (some (ad 102))))) (by kernel_rfl) ?_ (fun hHeld => ?_)
      · (try dsimp only); (first | exact gd | exact g99)
      refine held_take 0 ?_ rfl (by kernel_rfl) (by kernel_rfl) (by kernel_rfl) (fun _ _ _ h => h) (by rfl) ?_ hHeld ?_
      rotate_left
      · (intro w hSw; (try dsimp only at hSw); go_simp; try with_reducible rfl)
      try simp only [Act.put, List.setIfInBounds_toArray, List.set_cons_zero, List.set_cons_succ]
      refine held_take 1 ?_ rfl (by kernel_rfl) (by kernel_rfl) (by kernel_rfl) (fun _ _ _ h => h) (by rfl) ?_ hHeld ?_
      rotate_left
      · (intro w hSw; (try dsimp only at hSw); go_simp; try with_reducible rfl)
      try simp only [Act.put, List.setIfInBounds_toArray, List.set_cons_zero, List.set_cons_succ]
      refine held_one 2 rfl (by kernel_rfl) (by rfl) (fun K hK => ?_)
      refine wp_store_agg 64 _ _ rfl w.heap.size 0 rfl (frameL 0 0 0 0 0 false 0 0 0 none 0 0 none 0 0) rfl _ 64 HX.out.1.drew (by simp) rfl frame_info ?_
      intro w99 hx99 he99 hsz99
      have g99 := (he99.cell (lt_of_cell gd) hgl).trans gd
      have HX9 : Hid (Blk w99 w.heap.size (frameL 0 0 0 0 0 false 0 0 0 none 0 0 none 0 0) 64 ∧ Below w.heap.size w w99) := ⟨hx99, he99.below HX.out.2.drew HX.out.2.drew.size (fun i hi h => by omega)⟩
      clear hx99 he99 hsz99
      refine hK.out _ _ ?_ (fun hHeld2 => ?_)
      · (try dsimp only); (first | exact gd | exact g99)
      clear hK K hHeld
      have hHeld := hHeld2
      clear hHeld2
      try simp only [Act.put, List.setIfInBounds_toArray, List.set_cons_zero, List.set_cons_succ]
      refine held_take 3 ?_ rfl (by kernel_rfl) (by kernel_rfl) (by kernel_rfl) (fun _ _ _ h => h) (by rfl) ?_ hHeld ?_
      rotate_left
      · (intro w hSw; (try dsimp only at hSw); go_simp; try with_reducible rfl)
      try simp only [Act.put, List.setIfInBounds_toArray, List.set_cons_zero, List.set_cons_succ]
      refine wpAnyH_done (by kernel_rfl) ?_ _
      clear hHeld
      go_wp2_with fail
      try simp only [Exit.inBlock, Exit.then]
      refine ret_pair Tryd.results39 w.heap.size (frameL 0 0 0 0 0 false 0 0 0 none 0 0 none 0 0) 64 _ (.iface 136 (.pointer (some (ad 102)))) (by rfl) (by rfl) HX9.out.1 Tryd.underlying64 rfl frame_info (by rfl) ?_
      rw [← HRR.out]
      exact read_zero rfl ⟨rfl, by decide, rfl⟩ HX9.out.2
    have hlt' : ¬ (0 : Int) < bs.length - pp := by omega
    have hval := validF_any (ad := ad) 1 ff.1 ft.1 fl.1 fs.1 (fo.1 == 1) 0 0 0 none 0 [] none 0 [] w50 (HE.out.below B50).valid r50
    obtain ⟨E, hEq⟩ : ∃ E, frameE 1 ff.1 ft.1 fl.1 fs.1 (fo.1 == 1) 0 0 0 [] [] = E := ⟨_, rfl⟩
    rw [hEq] at hval
    have hFP : frameEP (FrL.mk 1 ff.1 ft.1 fl.1 fs.1 (fo.1 == 1) 0 0 0 none [] 0 none [] 0).pl = E := (frameEP_pl _).trans hEq
    have hpl : (FrL.mk 1 ff.1 ft.1 fl.1 fs.1 (fo.1 == 1) 0 0 0 none [] 0 none [] 0).pl = (1, ff.1, ft.1, fl.1, fs.1, fo.1 == 1, 0, 0, 0, [], []) := rfl
    have HFP := hid (And.intro hFP hpl)
    have HRX2 : Hid (R = if E ≠ 0 then RF.bare E else RF.ok (1, ff.1, ft.1, fl.1, fs.1, fo.1 == 1, 0, 0, 0, [], [])) := by
      rw [Hid, HRX.out]
      unfold endR
      simp only
      rw [if_neg hlt, ← hpl, hFP]
    clear hFP hpl hEq hlt
    have c0 : w50.cell? ⟨tf, 0, none⟩ = some (.int .i64 1) := f50.cell 0
    have c1 : w50.cell? ⟨tf, 1, none⟩ = some (.int .i64 ff.1) := f50.cell 1
    have c2 : w50.cell? ⟨tf, 2, none⟩ = some (.int .i64 ft.1) := f50.cell 2
    have c3 : w50.cell? ⟨tf, 3, none⟩ = some (.int .i64 fl.1) := f50.cell 3
    have c4 : w50.cell? ⟨tf, 4, none⟩ = some (.int .i64 fs.1) := f50.cell 4
    have c5 : w50.cell? ⟨tf, 5, none⟩ = some (.bool (fo.1 == 1)) := f50.cell 5
    have c6 : w50.cell? ⟨tf, 6, none⟩ = some (.int .i64 0) := f50.cell 6
    have c7 : w50.cell? ⟨tf, 7, none⟩ = some (.int .i64 0) := f50.cell 7
    have c8 : w50.cell? ⟨tf, 8, none⟩ = some (.int .i64 0) := f50.cell 8
    have c9 : w50.cell? ⟨tf, 9, none⟩ = some (.slice none 0 0) := f50.cell 9
    have c10 : w50.cell? ⟨tf, 10, none⟩ = some (.slice none 0 0) := f50.cell 10
    have HW50 := hid (And.intro f50 (And.intro v50 (And.intro r50 B50)))
    clear f50 v50 r50 B50
    by_cases hE0 : E = 0
    case neg =>
      rw [GivesErrB_ne hE0] at hval
      have HE0 := hid hE0
      clear hE0
      go_wp2_with fail
      refine hval.mono ?_
      rintro e w51 ⟨rfl, hb51⟩
      have v51 := (Eff.of_below (S := fun _ => False) hb51).blk HW50.out.2.1 (fun h => h)
      have B51 := HW50.out.2.2.2.trans (hb51.mono HW50.out.2.2.2.size)
      have HV51 := hid (And.intro v51 B51)
      clear v51 B51 hb51 hval c0 c1 c2 c3 c4 c5 c6 c7 c8 c9 c10
      go_wp2_with (refine wpList_store_agg rfl 64 _ _ rfl w.heap.size 0 rfl (frameL 0 0 0 0 0 false 0 0 0 none 0 0 none 0 0) rfl _ 64 HV51.out.1 (by simp) rfl frame_info ?_; intro w99 hx99 he99 hsz99; have HX9 : Hid (Blk w99 w.heap.size (frameL 0 0 0 0 0 false 0 0 0 none 0 0 none 0 0) 64 ∧ Eff (· = w.heap.size) w51 w99) := ⟨hx99, he99⟩; clear hx99 he99 hsz99)
      try simp only [Exit.inBlock, Exit.then]
      refine ret_pair Tryd.results39 w.heap.size (frameL 0 0 0 0 0 false 0 0 0 none 0 0 none 0 0) 64 _ (.iface 136 (.pointer (some (ad E)))) (by rfl) (by rfl) HX9.out.1 Tryd.underlying64 rfl frame_info (by rfl) ?_
      rw [HRX2.out, if_pos HE0.out]
      exact read_zero rfl ⟨(errV_ne ad HE0.out).symm, HE0.out, rfl⟩ (HX9.out.2.below HV51.out.2 HV51.out.2.size (fun i hi h => by omega))
    subst hE0
    rw [GivesErrB_zero] at hval
    go_wp2_with fail
    refine hval.mono ?_
    rintro e w51 ⟨rfl, hb51⟩
    have f51 := (Eff.of_below (S := fun _ => False) hb51).blk HW50.out.1 (fun h => h)
    have v51 := (Eff.of_below (S := fun _ => False) hb51).blk HW50.out.2.1 (fun h => h)
    have r51 := HW50.out.2.2.1.on hb51
    have B51 := HW50.out.2.2.2.trans (hb51.mono HW50.out.2.2.2.size)
    clear hb51 hval c0 c1 c2 c3 c4 c5 c6 c7 c8 c9 c10
    have c0 : w51.cell? ⟨tf, 0, none⟩ = some (.int .i64 1) := f51.cell 0
    have c1 : w51.cell? ⟨tf, 1, none⟩ = some (.int .i64 ff.1) := f51.cell 1
    have c2 : w51.cell? ⟨tf, 2, none⟩ = some (.int .i64 ft.1) := f51.cell 2
    have c3 : w51.cell? ⟨tf, 3, none⟩ = some (.int .i64 fl.1) := f51.cell 3
    have c4 : w51.cell? ⟨tf, 4, none⟩ = some (.int .i64 fs.1) := f51.cell 4
    have c5 : w51.cell? ⟨tf, 5, none⟩ = some (.bool (fo.1 == 1)) := f51.cell 5
    have c6 : w51.cell? ⟨tf, 6, none⟩ = some (.int .i64 0) := f51.cell 6
    have c7 : w51.cell? ⟨tf, 7, none⟩ = some (.int .i64 0) := f51.cell 7
    have c8 : w51.cell? ⟨tf, 8, none⟩ = some (.int .i64 0) := f51.cell 8
    have c9 : w51.cell? ⟨tf, 9, none⟩ = some (.slice none 0 0) := f51.cell 9
    have c10 : w51.cell? ⟨tf, 10, none⟩ = some (.slice none 0 0) := f51.cell 10
    have HV51 := hid (And.intro v51 (And.intro B51 r51))
    clear f51 v51 B51 r51
    go_wp2_with (refine wpList_store_agg rfl 64 _ _ rfl w.heap.size 0 rfl (frameL 1 ff.1 ft.1 fl.1 fs.1 (fo.1 == 1) 0 0 0 none 0 0 none 0 0) rfl _ 64 HV51.out.1 (by simp) rfl frame_info ?_; intro w99 hx99 he99 hsz99; have HX9 : Hid (Blk w99 w.heap.size (frameL 1 ff.1 ft.1 fl.1 fs.1 (fo.1 == 1) 0 0 0 none 0 0 none 0 0) 64 ∧ Eff (· = w.heap.size) w51 w99) := ⟨hx99, he99⟩; clear hx99 he99 hsz99)
    try simp only [Exit.inBlock, Exit.then]
    refine ret_pair Tryd.results39 w.heap.size (frameL 1 ff.1 ft.1 fl.1 fs.1 (fo.1 == 1) 0 0 0 none 0 0 none 0 0) 64 _ .nilIface (by rfl) (by rfl) HX9.out.1 Tryd.underlying64 rfl frame_info (by rfl) ?_
    rw [HRX2.out, if_neg (by simp)]
    exact ⟨⟨1, ff.1, ft.1, fl.1, fs.1, (fo.1 == 1), 0, 0, 0, none, [], 0, none, [], 0⟩, .nilIface, rfl, ring_keep HV51.out.2.2 HX9.out.2 htkr, ⟨rfl, HFP.out.2⟩, HX9.out.2.below HV51.out.2.1 HV51.out.2.1.size (fun i hi h => by omega)⟩
  · rw [if_neg (by omega)] at hRR
    rw [hk] at d1 hbs
    have HS := hid (show numS bs 40 40 (0, none) = (40, (1, none)) ∧ numS bs (-1) 1 (1, none) = (1, (2, none)) from by
      constructor
      · refine num_in (by unfold inI; omega) ⟨rfl, rfl, by show 1 ≤ bs.length; omega, by simp [cat, form_40], ?_⟩ (by omega) (by omega)
        rw [hbs]
        simp [cat, form_40]
      · refine num_in (by unfold inI; omega) ⟨rfl, rfl, by show 2 ≤ bs.length; omega, by simp [cat, form_2], ?_⟩ (by omega) (by omega)
        rw [hbs]
        simp [cat, form_2])
    have HRR := hid hRR
    clear hRR hbs hk h2 hl1
    go_wp2_with fail
    refine hnr.mono ?_
    rintro e w2 ⟨r, rfl, hR2, hr2, hb2⟩
    have hB2 := hB1.trans (hb2.mono hB1.size)
    have hrW : w.heap.size ≤ r := Nat.le_trans hB1.size hr2
    have d1' : w2.cell? ⟨b0, o0 + 1, none⟩ = some (.int .u8 2) := (hb2.cell (p := ⟨b0, o0 + 1, none⟩) hbw).trans d1
    have v2 := (Eff.of_below (S := fun _ => False) hb2).blk x1 (fun h => h)
    have hrne : r ≠ w.heap.size := by omega
    have hrl : r < w2.heap.size := by obtain ⟨_, _, h, _⟩ := hR2.blk; exact h.lt
    generalize w1.heap.size = lo at *
    clear hnr hb2 d0 d1 x1 hs1 hbw hB1
    go_upto_region 7 with (fail)
    have hb3 : Below w2.heap.size w2 (w2.alloc (.cells #[.int .i64 2, .int .i64 0, .int .i64 0, .int .i64 0, .int .i64 0, .bool false, .int .i64 0, .int .i64 0, .int .i64 0, .slice none 0 0, .slice none 0 0] 64)) := (Below.refl _ _).alloc (Nat.le_refl _) _
    have f3 : Blk (w2.alloc (.cells #[.int .i64 2, .int .i64 0, .int .i64 0, .int .i64 0, .int .i64 0, .bool false, .int .i64 0, .int .i64 0, .int .i64 0, .slice none 0 0, .slice none 0 0] 64)) w2.heap.size [.int .i64 2, .int .i64 0, .int .i64 0, .int .i64 0, .int .i64 0, .bool false, .int .i64 0, .int .i64 0, .int .i64 0, .slice none 0 0, .slice none 0 0] 64 := Blk.new w2 _ _
    have v3 := (Eff.of_below (S := fun _ => False) hb3).blk v2 (fun h => h)
    have s3 : RdSt ad w (w2.alloc (.cells #[.int .i64 2, .int .i64 0, .int .i64 0, .int .i64 0, .int .i64 0, .bool false, .int .i64 0, .int .i64 0, .int .i64 0, .slice none 0 0, .slice none 0 0] 64)) lo r bs (0, none) := ⟨⟨.nilIface, hR2.on hb3, rfl⟩, hB2.trans (hb3.mono hB2.size)⟩
    have hW2 := hB2.size
    generalize w2.alloc (.cells #[.int .i64 2, .int .i64 0, .int .i64 0, .int .i64 0, .int .i64 0, .bool false, .int .i64 0, .int .i64 0, .int .i64 0, .slice none 0 0, .slice none 0 0] 64) = w3 at *
    generalize w2.heap.size = tf at *
    have htf1 : w.heap.size ≠ tf := by omega
    have htfr : r < tf := hrl
    clear hR2 v2 hb3 hB2 d1'
    have q1 := num_step 40 40 HE.out.three hrW s3
    rw [HS.out.1] at q1
    go_wp2_with fail
    refine q1.mono ?_
    rintro e w4 ⟨rfl, s4, t4⟩
    have f4 := t4.blk f3 (fun h => by omega)
    have v4 := t4.blk v3 (fun h => hrne h.symm)
    clear q1 s3 f3 v3 t4
    have q1 := num_step (-1) 1 HE.out.three hrW s4
    rw [HS.out.2] at q1
    go_wp2_with fail
    refine q1.mono ?_
    rintro e w5 ⟨rfl, s5, t5⟩
    have f5 := t5.blk f4 (fun h => by omega)
    have v5 := t5.blk v4 (fun h => hrne h.symm)
    clear q1 s4 f4 v4 t5
    have q1 := num_step 0 15 HE.out.three hrW s5
    obtain ⟨ff, hff⟩ : ∃ ff, numS bs 0 15 (2, none) = ff := ⟨_, rfl⟩
    rw [hff] at q1
    go_wp2_with fail
    refine q1.mono ?_
    rintro e w6 ⟨rfl, s6, t6⟩
    have f6 := t6.blk f5 (fun h => by omega)
    have v6 := t6.blk v5 (fun h => hrne h.symm)
    clear q1 s5 f5 v5 t6
    have q1 := num_step 0 15 HE.out.three hrW s6
    obtain ⟨ft, hft⟩ : ∃ ft, numS bs 0 15 ff.2 = ft := ⟨_, rfl⟩
    rw [hft] at q1
    go_wp2_with fail
    refine q1.mono ?_
    rintro e w7 ⟨rfl, s7, t7⟩
    have f7 := t7.blk f6 (fun h => by omega)
    have v7 := t7.blk v6 (fun h => hrne h.symm)
    clear q1 s6 f6 v6 t7
    have c1 : w7.cell? ⟨tf, 1, none⟩ = some (.int .i64 0) := f7.cell 1
    have c2 : w7.cell? ⟨tf, 2, none⟩ = some (.int .i64 0) := f7.cell 2
    have hff : ∀ o, w7.frozen? ⟨tf, o, none⟩ = false := f7.frozen
    have t8 : Eff (· = tf) w7 (((w7).setCell ⟨tf, 1, none⟩ (.int .i64 ff.1)).setCell ⟨tf, 2, none⟩ (.int .i64 ft.1)) := (((Eff.one tf w7)).set 1 (.int .i64 ff.1)).set 2 (.int .i64 ft.1)
    have s8 : RdSt ad w (((w7).setCell ⟨tf, 1, none⟩ (.int .i64 ff.1)).setCell ⟨tf, 2, none⟩ (.int .i64 ft.1)) lo r bs ft.2 := s7.set (by omega) htfr hW2 (by decide) f7 t8
    have f8 := ((f7).set 1 (.int .i64 ff.1)).set 2 (.int .i64 ft.1)
    have v8 := t8.blk v7 (fun h => htf1 h)
    clear s7 f7 v7 t8
    go_upto_region 10 with (fail)
    generalize ((w7).setCell ⟨tf, 1, none⟩ (.int .i64 ff.1)).setCell ⟨tf, 2, none⟩ (.int .i64 ft.1) = w8 at *
    clear hff c1 c2
    have c0 : w8.cell? ⟨tf, 0, none⟩ = some (.int .i64 2) := f8.cell 0
    have hrw : r < w8.heap.size := Nat.lt_of_lt_of_le htfr (Nat.le_of_lt f8.lt)
    have htfw : tf < w8.heap.size := f8.lt
    have hvw : w.heap.size < w8.heap.size := v8.lt
    have q1 := ring_any w8 HE.out.three hrW (by omega) hrw s8
    obtain ⟨Y, hY⟩ : ∃ Y, ringR bs ft.2 = Y := ⟨_, rfl⟩
    rw [hY] at q1
    go_wp2_with fail
    refine q1.mono ?_
    rintro e w9 ⟨MA, mc, EA, es, ec, rfl, hes, hring, s9, t9, hfresh⟩
    have f9 := t9.blk f8 (fun h => by omega)
    have v9 := t9.blk v8 (fun h => hrne h.symm)
    have HSV := hid (And.intro f9 (And.intro v9 (And.intro s9 hring)))
    have htk : RingOff MA EA es tf := fun q hq h => by have := hfresh q hq; omega
    have htkr : RingOff MA EA es w.heap.size := fun q hq h => by have := hfresh q hq; omega
    clear q1 s8 f8 v8 t9 c0 f9 v9 s9 hring
    go_upto_region 14 with (refine wpList_store_agg rfl 53 _ _ rfl tf 6 rfl (ringL Y.1.1 Y.1.2.1 Y.1.2.2.1 MA Y.1.2.2.2.1.length mc EA es.length ec) rfl _ 64 HSV.out.1 (by simp) rfl ring_info ?_; intro w10 hx10 he10 hsz10)
    have f10 : Blk w10 tf [.int .i64 2, .int .i64 ff.1, .int .i64 ft.1, .int .i64 0, .int .i64 0, .bool false, .int .i64 Y.1.1, .int .i64 Y.1.2.1, .int .i64 Y.1.2.2.1, .slice MA Y.1.2.2.2.1.length mc, .slice EA es.length ec] 64 := hx10
    have v10 := he10.blk HSV.out.2.1 (fun h => htf1 h)
    have s10 : RdSt ad w w10 lo r bs Y.2 := HSV.out.2.2.1.set (by omega) htfr hW2 (by decide) HSV.out.1 he10
    have htfn : ∀ q : Nat, True := fun _ => trivial
    have HXX : Hid (tokR bs (2, none) = ((2, ff.1, ft.1, 0, 0, false, Y.1), Y.2)) := by rw [Hid, tokR]; simp only [hff, hft, hY]
    have hring := ring_keep HSV.out.2.2.2 he10 htk
    clear hx10 hsz10
    have fF : Blk w10 tf (frameL 2 ff.1 ft.1 0 0 false Y.1.1 Y.1.2.1 Y.1.2.2.1 MA Y.1.2.2.2.1.length mc EA es.length ec) 64 := f10
    obtain ⟨S, hS⟩ : ∃ S, Y.2 = S := ⟨_, rfl⟩
    have HRX := hid (HRR.out.symm.trans (by rw [HXX.out, hS]))
    rw [hS] at s10
    obtain ⟨pp, oo⟩ := S
    obtain ⟨ev, hR, hErr⟩ := s10.rd
    have hBn := s10.below
    have hqe := errOf_any w10 hR
    have HK := hid (And.intro fF (And.intro v10 (And.intro hring hBn)))
    clear hS fF f10 hring hBn HRR
    cases oo with
    | some ep =>
      obtain ⟨ec, eq⟩ := ep
      obtain ⟨B, rfl, hBk, hBr⟩ := hErr
      have hBres : B ≠ w.heap.size := hBk.type_ne v10 (by decide)
      have HBK := hid hBk
      clear hBk hBr v10 s10
      go_wp2_with fail
      refine hqe.mono ?_
      rintro e w' ⟨rfl, rfl⟩
      go_wp2_with fail
      refine hqe.mono ?_
      rintro e w' ⟨rfl, rfl⟩
      go_wp2_with (refine wpList_store_agg rfl 64 _ _ rfl w.heap.size 0 rfl (frameL 0 0 0 0 0 false 0 0 0 none 0 0 none 0 0) rfl _ 64 HK.out.2.1 (by simp) rfl frame_info ?_; intro w99 hx99 he99 hsz99; have HX9 : Hid (Blk w99 w.heap.size (frameL 0 0 0 0 0 false 0 0 0 none 0 0 none 0 0) 64 ∧ Eff (· = w.heap.size) w10 w99) := ⟨hx99, he99⟩; clear hx99 he99 hsz99)
      try simp only [Exit.inBlock, Exit.then]
      refine ret_pair Tryd.results39 w.heap.size (frameL 0 0 0 0 0 false 0 0 0 none 0 0 none 0 0) 64 _ (.iface 106 (.pointer (some ⟨B, 0, none⟩))) (by rfl) (by rfl) HX9.out.1 Tryd.underlying64 rfl frame_info (by rfl) ?_
      rw [HRX.out]
      exact read_zero rfl ⟨⟨B, rfl, HX9.out.2.blk HBK.out hBres⟩, rfl⟩ (HX9.out.2.below HK.out.2.2.2 HK.out.2.2.2.size (fun i hi h => by omega))
    | none =>
    have hErr : ev = .nilIface := hErr
    subst hErr
    have hle := left_any w10 hR
    go_wp2_with fail
    refine hqe.mono ?_
    rintro e w' ⟨rfl, rfl⟩
    go_wp2_with fail
    refine hle.mono ?_
    rintro e w' ⟨rfl, dq, rfl⟩
    have hbd := below_drewN (Below.refl w10.heap.size w10) dq
    have v50 := (Eff.of_below (S := fun _ => False) hbd).blk HK.out.2.1 (fun h => h)
    have f50 := (Eff.of_below (S := fun _ => False) hbd).blk HK.out.1 (fun h => h)
    have B50 := HK.out.2.2.2.trans (hbd.mono HK.out.2.2.2.size)
    have r50 := HK.out.2.2.1.on hbd
    clear hle hqe hR v10 s10 hbd
    generalize w10.drewN dq = w50 at *
    by_cases hlt : pp < bs.length
    case pos =>
      have hlt' : (0 : Int) < bs.length - pp := by omega
      have HRR : Hid (RF.bare 102 = R) := by rw [Hid, HRX.out]; unfold endR; simp only; rw [if_pos hlt]
      clear hlt HRX f50 r50
      have HX := hid (And.intro v50 B50)
      have gd : w50.drew.cell? ⟨3, 0, none⟩ = some (.iface 136 (.pointer (some (ad 102)))) := (HE.out.below B50).three.shape
      have hgl : (3 : Nat) ≠ w.heap.size := by have h : (3 : Nat) < w.heap.size := lt_of_cell HE.out.three.shape; omega
      clear v50 B50
      go_wp2_with fail
      refine wp_region_held_drew (S := fun w' => w'.cell? ⟨3, 0, none⟩ = some (.iface 136 (.pointer (some (ad 102))))) (by kernel_rfl) ?_ (fun hHeld => ?_)
      · (try dsimp only); (first | exact gd | exact g99)
      refine held_take 0 ?_ rfl (by kernel_rfl) (by kernel_rfl) (by kernel_rfl) (fun _ _ _ h => h) (by rfl) ?_ hHeld ?_
      rotate_left
      · (intro w hSw; (try dsimp only at hSw); go_simp; try with_reducible rfl)
      try simp only [Act.put, List.setIfInBounds_toArray, List.set_cons_zero, List.set_cons_succ]
      refine held_take 1 ?_ rfl (by kernel_rfl) (by kernel_rfl) (by kernel_rfl) (fun _ _ _ h => h) (by rfl) ?_ hHeld ?_
      rotate_left
      · (intro w hSw; (try dsimp only at hSw); go_simp; try with_reducible rfl)
      try simp only [Act.put, List.setIfInBounds_toArray, List.set_cons_zero, List.set_cons_succ]
      refine held_one 2 rfl (by kernel_rfl) (by rfl) (fun K hK => ?_)
      refine wp_store_agg 64 _ _ rfl w.heap.size 0 rfl (frameL 0 0 0 0 0 false 0 0 0 none 0 0 none 0 0) rfl _ 64 HX.out.1.drew (by simp) rfl frame_info ?_
      intro w99 hx99 he99 hsz99
      have g99 := (he99.cell (lt_of_cell gd) hgl).trans gd
      have HX9 : Hid (Blk w99 w.heap.size (frameL 0 0 0 0 0 false 0 0 0 none 0 0 none 0 0) 64 ∧ Below w.heap.size w w99) := ⟨hx99, he99.below HX.out.2.drew HX.out.2.drew.size (fun i hi h => by omega)⟩
      clear hx99 he99 hsz99
      refine hK.out _ _ ?_ (fun hHeld2 => ?_)
      · (try dsimp only); (first | exact gd | exact g99)
      clear hK K hHeld
      have hHeld := hHeld2
      clear hHeld2
      try simp only [Act.put, List.setIfInBounds_toArray, List.set_cons_zero, List.set_cons_succ]
      refine held_take 3 ?_ rfl (by kernel_rfl) (by kernel_rfl) (by kernel_rfl) (fun _ _ _ h => h) (by rfl) ?_ hHeld ?_
      rotate_left
      · (intro w hSw; (try dsimp only at hSw); go_simp; try with_reducible rfl)
      try simp only [Act.put, List.setIfInBounds_toArray, List.set_cons_zero, List.set_cons_succ]
      refine wpAnyH_done (by kernel_rfl) ?_ _
      clear hHeld
      go_wp2_with fail
      try simp only [Exit.inBlock, Exit.then]
      refine ret_pair Tryd.results39 w.heap.size (frameL 0 0 0 0 0 false 0 0 0 none 0 0 none 0 0) 64 _ (.iface 136 (.pointer (some (ad 102)))) (by rfl) (by rfl) HX9.out.1 Tryd.underlying64 rfl frame_info (by rfl) ?_
      rw [← HRR.out]
      exact read_zero rfl ⟨rfl, by decide, rfl⟩ HX9.out.2
    have hlt' : ¬ (0 : Int) < bs.length - pp := by omega
    have hval := validF_any (ad := ad) 2 ff.1 ft.1 0 0 false Y.1.1 Y.1.2.1 Y.1.2.2.1 MA mc Y.1.2.2.2.1 EA ec es w50 (HE.out.below B50).valid r50
    obtain ⟨E, hEq⟩ : ∃ E, frameE 2 ff.1 ft.1 0 0 false Y.1.1 Y.1.2.1 Y.1.2.2.1 Y.1.2.2.2.1 es = E := ⟨_, rfl⟩
    rw [hEq] at hval
    have hFP : frameEP (FrL.mk 2 ff.1 ft.1 0 0 false Y.1.1 Y.1.2.1 Y.1.2.2.1 MA Y.1.2.2.2.1 mc EA es ec).pl = E := (frameEP_pl _).trans hEq
    have hpl : (FrL.mk 2 ff.1 ft.1 0 0 false Y.1.1 Y.1.2.1 Y.1.2.2.1 MA Y.1.2.2.2.1 mc EA es ec).pl = (2, ff.1, ft.1, 0, 0, false, Y.1) := by simp only [FrL.pl, hes]
    have HFP := hid (And.intro hFP hpl)
    have HRX2 : Hid (R = if E ≠ 0 then RF.bare E else RF.ok (2, ff.1, ft.1, 0, 0, false, Y.1)) := by
      rw [Hid, HRX.out]
      unfold endR
      simp only
      rw [if_neg hlt, ← hpl, hFP]
    clear hFP hpl hEq hlt
    have c0 : w50.cell? ⟨tf, 0, none⟩ = some (.int .i64 2) := f50.cell 0
    have c1 : w50.cell? ⟨tf, 1, none⟩ = some (.int .i64 ff.1) := f50.cell 1
    have c2 : w50.cell? ⟨tf, 2, none⟩ = some (.int .i64 ft.1) := f50.cell 2
    have c3 : w50.cell? ⟨tf, 3, none⟩ = some (.int .i64 0) := f50.cell 3
    have c4 : w50.cell? ⟨tf, 4, none⟩ = some (.int .i64 0) := f50.cell 4
    have c5 : w50.cell? ⟨tf, 5, none⟩ = some (.bool false) := f50.cell 5
    have c6 : w50.cell? ⟨tf, 6, none⟩ = some (.int .i64 Y.1.1) := f50.cell 6
    have c7 : w50.cell? ⟨tf, 7, none⟩ = some (.int .i64 Y.1.2.1) := f50.cell 7
    have c8 : w50.cell? ⟨tf, 8, none⟩ = some (.int .i64 Y.1.2.2.1) := f50.cell 8
    have c9 : w50.cell? ⟨tf, 9, none⟩ = some (.slice MA Y.1.2.2.2.1.length mc) := f50.cell 9
    have c10 : w50.cell? ⟨tf, 10, none⟩ = some (.slice EA es.length ec) := f50.cell 10
    have HW50 := hid (And.intro f50 (And.intro v50 (And.intro r50 B50)))
    clear f50 v50 r50 B50
    by_cases hE0 : E = 0
    case neg =>
      rw [GivesErrB_ne hE0] at hval
      have HE0 := hid hE0
      clear hE0
      go_wp2_with fail
      refine hval.mono ?_
      rintro e w51 ⟨rfl, hb51⟩
      have v51 := (Eff.of_below (S := fun _ => False) hb51).blk HW50.out.2.1 (fun h => h)
      have B51 := HW50.out.2.2.2.trans (hb51.mono HW50.out.2.2.2.size)
      have HV51 := hid (And.intro v51 B51)
      clear v51 B51 hb51 hval c0 c1 c2 c3 c4 c5 c6 c7 c8 c9 c10
      go_wp2_with (refine wpList_store_agg rfl 64 _ _ rfl w.heap.size 0 rfl (frameL 0 0 0 0 0 false 0 0 0 none 0 0 none 0 0) rfl _ 64 HV51.out.1 (by simp) rfl frame_info ?_; intro w99 hx99 he99 hsz99; have HX9 : Hid (Blk w99 w.heap.size (frameL 0 0 0 0 0 false 0 0 0 none 0 0 none 0 0) 64 ∧ Eff (· = w.heap.size) w51 w99) := ⟨hx99, he99⟩; clear hx99 he99 hsz99)
      try simp only [Exit.inBlock, Exit.then]
      refine ret_pair Tryd.results39 w.heap.size (frameL 0 0 0 0 0 false 0 0 0 none 0 0 none 0 0) 64 _ (.iface 136 (.pointer (some (ad E)))) (by rfl) (by rfl) HX9.out.1 Tryd.underlying64 rfl frame_info (by rfl) ?_
      rw [HRX2.out, if_pos HE0.out]
      exact read_zero rfl ⟨(errV_ne ad HE0.out).symm, HE0.out, rfl⟩ (HX9.out.2.below HV51.out.2 HV51.out.2.size (fun i hi h => by omega))
    subst hE0
    rw [GivesErrB_zero] at hval
    go_wp2_with fail
    refine hval.mono ?_
    rintro e w51 ⟨rfl, hb51⟩
    have f51 := (Eff.of_below (S := fun _ => False) hb51).blk HW50.out.1 (fun h => h)
    have v51 := (Eff.of_below (S := fun _ => False) hb51).blk HW50.out.2.1 (fun h => h)
    have r51 := HW50.out.2.2.1.on hb51
    have B51 := HW50.out.2.2.2.trans (hb51.mono HW50.out.2.2.2.size)
    clear hb51 hval c0 c1 c2 c3 c4 c5 c6 c7 c8 c9 c10
    have c0 : w51.cell? ⟨tf, 0, none⟩ = some (.int .i64 2) := f51.cell 0
    have c1 : w51.cell? ⟨tf, 1, none⟩ = some (.int .i64 ff.1) := f51.cell 1
    have c2 : w51.cell? ⟨tf, 2, none⟩ = some (.int .i64 ft.1) := f51.cell 2
    have c3 : w51.cell? ⟨tf, 3, none⟩ = some (.int .i64 0) := f51.cell 3
    have c4 : w51.cell? ⟨tf, 4, none⟩ = some (.int .i64 0) := f51.cell 4
    have c5 : w51.cell? ⟨tf, 5, none⟩ = some (.bool false) := f51.cell 5
    have c6 : w51.cell? ⟨tf, 6, none⟩ = some (.int .i64 Y.1.1) := f51.cell 6
    have c7 : w51.cell? ⟨tf, 7, none⟩ = some (.int .i64 Y.1.2.1) := f51.cell 7
    have c8 : w51.cell? ⟨tf, 8, none⟩ = some (.int .i64 Y.1.2.2.1) := f51.cell 8
    have c9 : w51.cell? ⟨tf, 9, none⟩ = some (.slice MA Y.1.2.2.2.1.length mc) := f51.cell 9
    have c10 : w51.cell? ⟨tf, 10, none⟩ = some (.slice EA es.length ec) := f51.cell 10
    have HV51 := hid (And.intro v51 (And.intro B51 r51))
    clear f51 v51 B51 r51
    go_wp2_with (refine wpList_store_agg rfl 64 _ _ rfl w.heap.size 0 rfl (frameL 2 ff.1 ft.1 0 0 false Y.1.1 Y.1.2.1 Y.1.2.2.1 MA Y.1.2.2.2.1.length mc EA es.length ec) rfl _ 64 HV51.out.1 (by simp) rfl frame_info ?_; intro w99 hx99 he99 hsz99; have HX9 : Hid (Blk w99 w.heap.size (frameL 2 ff.1 ft.1 0 0 false Y.1.1 Y.1.2.1 Y.1.2.2.1 MA Y.1.2.2.2.1.length mc EA es.length ec) 64 ∧ Eff (· = w.heap.size) w51 w99) := ⟨hx99, he99⟩; clear hx99 he99 hsz99)
    try simp only [Exit.inBlock, Exit.then]
    refine ret_pair Tryd.results39 w.heap.size (frameL 2 ff.1 ft.1 0 0 false Y.1.1 Y.1.2.1 Y.1.2.2.1 MA Y.1.2.2.2.1.length mc EA es.length ec) 64 _ .nilIface (by rfl) (by rfl) HX9.out.1 Tryd.underlying64 rfl frame_info (by rfl) ?_
    rw [HRX2.out, if_neg (by simp)]
    exact ⟨⟨2, ff.1, ft.1, 0, 0, false, Y.1.1, Y.1.2.1, Y.1.2.2.1, MA, Y.1.2.2.2.1, mc, EA, es, ec⟩, .nilIface, rfl, ring_keep HV51.out.2.2 HX9.out.2 htkr, ⟨rfl, HFP.out.2⟩, HX9.out.2.below HV51.out.2.1 HV51.out.2.1.size (fun i hi h => by omega)⟩
end Go.Proofs.YtogcbiooddodlaaDoor
