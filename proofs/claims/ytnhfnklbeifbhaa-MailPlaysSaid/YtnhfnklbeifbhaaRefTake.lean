/- The document's frames on their way: Take, Swap. -/
import Derived.Test.YtnhfnklbeifbhaaRefBytes
import Derived.Test.YtnhfnklbeifbhaaMailTake
import Derived.BigRegion
import Derived.Deep.Onto
namespace Go.Proofs.Ytnhfnklbeifbhaa
open Go.RowKit
set_option linter.unusedSimpArgs false

theorem ritem_info : (Try.prog.info? 48).map (·.size) = some 2 := by kernel_rfl
theorem ret_ritem {fn : Func} {R : Ending → World → Prop} {a : Act} {w : World} {p t : Tmp} (h : fn.results = #[.cell p 48, .tmp t]) (X : Nat) (x : It) (u : Bool) (E : TypeId)
    (hp : a.tmps.getD p undef = .pointer (some ⟨X, 0, none⟩)) (hb : Blk w X x.cells E) (hu : a.tmps.getD t undef = .bool u) (hd : a.defers = []) (hR : R (.returned (.tuple #[x.val, .bool u])) w) : bodyPost Try.prog fn R .ret a w := by
  have h0 : w.cell? ⟨X, 0, none⟩ = some (.int .i64 x.dst) := hb.cell 0
  have h1 : w.cell? ⟨X, 1, none⟩ = some (.slice x.A x.bs.length x.c) := hb.cell 1
  refine bodyPost_ret (v := .tuple #[x.val, .bool u]) ?_ hd hR
  have hp' : a.tmps[p]?.getD undef = .pointer (some ⟨X, 0, none⟩) := by simpa using hp
  have hu' : a.tmps[t]?.getD undef = .bool u := by simpa using hu
  simp [results, h, hp', hu', h0, h1, It.val, go_sem]

def TakeNo (w : World) (e : Ending) (w' : World) : Prop := e = .returned (.tuple #[.agg #[.int .i64 0, .slice none 0 0], .bool false]) ∧ Below w.heap.size w w'
set_option maxHeartbeats 1600000 in
theorem rTakeNo_any {b : Nat} {v : Value} {its : List It} {lost : Int} (i : Int) (w : World) (hm : RMailIs w b v its lost) (hn : ¬ (0 ≤ i ∧ i < its.length)) :
    Calls Try.prog 19 #[.pointer (some ⟨b, 0, none⟩), .int .i64 i] w (TakeNo w) := by
  have hz := zero_ritem
  obtain ⟨w0, hw0⟩ : ∃ w0, w0 = w.alloc (.cells #[.int .i64 0, .slice none 0 0] 48) := ⟨_, rfl⟩
  have hX : Blk w0 w.heap.size [.int .i64 0, .slice none 0 0] 48 := by rw [hw0]; exact Blk.new w _ _
  have hB : Below w.heap.size w w0 := by rw [hw0]; exact (Below.refl _ _).alloc (Nat.le_refl _) _
  obtain ⟨A0, k0, rfl, _, _, _⟩ := Sl.row hm.row
  have hm0 := hm.below hB
  have d0 : w0.cell? ⟨b, 0, none⟩ = some (.slice A0 its.length k0) := hm0.blk.cell 0
  have HW := hid hw0
  have c0 : w0.cell? ⟨w.heap.size, 0, none⟩ = some (.int .i64 0) := hX.cell 0
  have c1 : w0.cell? ⟨w.heap.size, 1, none⟩ = some (.slice none 0 0) := hX.cell 1
  have cf : ∀ o, w0.frozen? ⟨w.heap.size, o, none⟩ = false := hX.frozen
  have hX2 := (hX.set 0 (.int .i64 0)).set 1 (.slice none 0 0)
  have hB2 := (hB.setCell (p := ⟨w.heap.size, 0, none⟩) (Nat.le_refl _) (.int .i64 0)).setCell (p := ⟨w.heap.size, 1, none⟩) (Nat.le_refl _) (.slice none 0 0)
  have HX := hid (And.intro hX2 hB2)
  clear hX hB hX2 hB2 hw0 hm hm0
  by_cases h0 : i < 0
  · clear hn
    go_enter Try.func19, Try.ntmps19
    go_upto_region 1 with (fail)
    rw [← HW.out]
    go_wp2_with fail
    refine ret_ritem (p := 4) (t := 5) Try.results19 w.heap.size ⟨0, none, 0, []⟩ false 48 (by rfl) HX.out.1 (by rfl) (by rfl) ?_
    exact ⟨rfl, HX.out.2⟩
  · have h1 : (its.length : Int) ≤ i := by omega
    have h2 : 0 ≤ i := by omega
    clear hn h0
    go_enter Try.func19, Try.ntmps19
    go_upto_region 1 with (fail)
    rw [← HW.out]
    go_wp2_with fail
    refine ret_ritem (p := 4) (t := 5) Try.results19 w.heap.size ⟨0, none, 0, []⟩ false 48 (by rfl) HX.out.1 (by rfl) (by rfl) ?_
    exact ⟨rfl, HX.out.2⟩

def RGivesTake (w : World) (b : Nat) (v : Value) (its : List It) (lost : Int) (x : It) (e : Ending) (w' : World) : Prop :=
  ∃ v', e = .returned (.tuple #[x.val, .bool true]) ∧ RMailIs w' b v' its lost ∧ x.here w' ∧ x.free w' ∧ (∀ a, x.A = some a → a.block < w.heap.size) ∧ (∀ k, v'.ownBlock = some k → w.heap.size ≤ k) ∧ Eff (MailOwn b v) w w'

theorem rTake_done {w w2 : World} {b B i : Nat} {its : List It} {lost : Int} {x : It} {v v' : Value} (hm : RMailIs w b v its lost) (hx : its[i]? = some x) (hB : Below w.heap.size w w2)
    (hrow : w2.ownsRow B 48 2 v' (its.eraseIdx i).length ((its.eraseIdx i).flatMap It.cells)) (hBB : w.heap.size < B) (hX : Blk w2 w.heap.size [.int .i64 0, .slice none 0 0] 48) :
    Blk (((w2.setCell ⟨b, 0, none⟩ v').setCell ⟨w.heap.size, 0, none⟩ (.int .i64 x.dst)).setCell ⟨w.heap.size, 1, none⟩ (.slice x.A x.bs.length x.c)) w.heap.size x.cells 48 ∧
    RGivesTake w b v (its.eraseIdx i) lost x (.returned (.tuple #[x.val, .bool true]))
      (((w2.setCell ⟨b, 0, none⟩ v').setCell ⟨w.heap.size, 0, none⟩ (.int .i64 x.dst)).setCell ⟨w.heap.size, 1, none⟩ (.slice x.A x.bs.length x.c)) := by
  have hxm := List.mem_of_getElem? hx
  have hbl := hm.lt.1
  have hv : ∀ k, v'.ownBlock = some k → B ≤ k := fun k hk => (hrow.lt k hk).1
  have hb2 := hm.below hB
  have he3 : Eff (· = b) w2 (w2.setCell ⟨b, 0, none⟩ v') := (Eff.one b w2).set 0 _
  have hX3 := he3.blk hX (by omega)
  have he4 := ((Eff.one w.heap.size (w2.setCell ⟨b, 0, none⟩ v')).set 0 (.int .i64 x.dst)).set 1 (.slice x.A x.bs.length x.c)
  have hmem : ∀ z ∈ its.eraseIdx i, z ∈ its := fun z hz => List.mem_of_mem_eraseIdx hz
  have hall : ∀ z ∈ its, z.here (((w2.setCell ⟨b, 0, none⟩ v').setCell ⟨w.heap.size, 0, none⟩ (.int .i64 x.dst)).setCell ⟨w.heap.size, 1, none⟩ (.slice x.A x.bs.length x.c)) := fun z hz =>
    ((hb2.here z hz).eff he3 (fun a ha h => hm.off z hz a ha (.inl h))).eff he4 (fun a ha h => by have := hm.old z hz a ha; omega)
  have hfree : ∀ z ∈ its, z.free (((w2.setCell ⟨b, 0, none⟩ v').setCell ⟨w.heap.size, 0, none⟩ (.int .i64 x.dst)).setCell ⟨w.heap.size, 1, none⟩ (.slice x.A x.bs.length x.c)) := fun z hz =>
    ((hb2.free z hz).eff he3 (fun a ha h => hm.off z hz a ha (.inl h)) (hb2.old z hz)).eff he4 (fun a ha h => by have := hm.old z hz a ha; omega) (fun a ha => Nat.lt_of_lt_of_le (hb2.old z hz a ha) he3.size)
  refine ⟨(hX3.set 0 _).set 1 _, v', rfl, ⟨?_, ?_, ?_, ?_, ?_, ?_, ?_⟩, ?_, ?_, hm.old x hxm, fun k hk => Nat.le_of_lt (Nat.lt_of_lt_of_le hBB (hv k hk)), ?_⟩
  · exact he4.blk (hb2.blk.set 0 _) (by omega)
  · exact he4.row (he3.row (World.ownsRow.mono hrow (Nat.zero_le _)) (fun k hk h => by have := hv k hk; omega)) (fun k hk h => by have := hv k hk; omega)
  · exact fun e => by have := hv _ e; omega
  · exact fun z hz => hall z (hmem z hz)
  · exact fun z hz a ha h => by
      rcases h with h | h
      · exact hm.off z (hmem z hz) a ha (.inl h)
      · have := hv _ h; have := hm.old z (hmem z hz) a ha; omega
  · exact fun z hz a ha => by have := hm.old z (hmem z hz) a ha; have := hB.size; simp; omega
  · exact fun z hz => hfree z (hmem z hz)
  · exact hall x hxm
  · exact hfree x hxm
  · exact (((Eff.of_below hB).step he3 (fun j _ h => .inl h)).step he4 (fun j hj h => by omega))

theorem flat_len (its : List It) : (its.flatMap It.cells).length = its.length * 2 := by
  induction its with
  | nil => rfl
  | cons x l ih => rw [List.flatMap_cons, List.length_append, ih, It.len, List.length_cons]; omega
theorem flat_take_get (its : List It) (i : Nat) {j : Nat} {u : Value} (h : ((its.take i).flatMap It.cells)[j]? = some u) : (its.flatMap It.cells)[j]? = some u := by
  have e : its.flatMap It.cells = (its.take i).flatMap It.cells ++ (its.drop i).flatMap It.cells := by rw [← List.flatMap_append, List.take_append_drop]
  rw [e, List.getElem?_append_left (List.getElem?_eq_some_iff.1 h).1, h]
theorem flat_drop_get (its : List It) (i : Nat) (hi : i ≤ its.length) {j : Nat} {u : Value} (h : ((its.drop i).flatMap It.cells)[j]? = some u) : (its.flatMap It.cells)[i * 2 + j]? = some u := by
  have e : its.flatMap It.cells = (its.take i).flatMap It.cells ++ (its.drop i).flatMap It.cells := by rw [← List.flatMap_append, List.take_append_drop]
  have hl : ((its.take i).flatMap It.cells).length = i * 2 := by rw [flat_len, List.length_take, Nat.min_eq_left hi]
  rw [e, List.getElem?_append_right (by omega), hl, show i * 2 + j - i * 2 = j from by omega, h]
theorem erase_flat (its : List It) (i : Nat) : (its.take i).flatMap It.cells ++ (its.drop (i + 1)).flatMap It.cells = (its.eraseIdx i).flatMap It.cells := by
  rw [List.eraseIdx_eq_take_drop_succ, List.flatMap_append]

set_option maxHeartbeats 4000000 in
set_option maxRecDepth 100000 in
theorem rTake_any {b : Nat} {v : Value} {its : List It} {lost : Int} (i : Nat) (x : It) (w : World) (hm : RMailIs w b v its lost) (hx : its[i]? = some x) (hl : its.length ≤ 100000) :
    Calls Try.prog 19 #[.pointer (some ⟨b, 0, none⟩), .int .i64 i] w (RGivesTake w b v (its.eraseIdx i) lost x) := by
  have hi := (List.getElem?_eq_some_iff.1 hx).1
  have hz := zero_ritem
  obtain ⟨w0, hw0⟩ : ∃ w0, w0 = w.alloc (.cells #[.int .i64 0, .slice none 0 0] 48) := ⟨_, rfl⟩
  have hX : Blk w0 w.heap.size [.int .i64 0, .slice none 0 0] 48 := by rw [hw0]; exact Blk.new w _ _
  have hB : Below w.heap.size w w0 := by rw [hw0]; exact (Below.refl _ _).alloc (Nat.le_refl _) _
  have hm0 := hm.below hB
  obtain ⟨g, cap, rfl, hcap, hcm, x0, x1⟩ := row_item hm0.row hx
  have d0 : w0.cell? ⟨b, 0, none⟩ = some (.slice (some ⟨g, 0, none⟩) its.length cap) := hm0.blk.cell 0
  have hz0 : w0.heap.size = w.heap.size + 1 := by rw [hw0]; simp
  obtain ⟨w1, hw1⟩ : ∃ w1, w1 = w0.alloc (.cells #[.int .i64 x.dst, .slice x.A x.bs.length x.c] 48) := ⟨_, rfl⟩
  have hY1 : Blk w1 w0.heap.size x.cells 48 := by rw [hw1]; exact Blk.new w0 _ _
  have hb1 : Below w0.heap.size w0 w1 := by rw [hw1]; exact (Below.refl _ _).alloc (Nat.le_refl _) _
  have hz1 : w1.heap.size = w0.heap.size + 1 := by rw [hw1]; simp
  have hX1 := (Eff.of_below (S := fun _ => False) hb1).blk hX (fun h => h)
  have hm1 := hm0.below hb1
  have hB1 := hB.trans (hb1.mono hB.size)
  have hbl : b < w.heap.size := hm.lt.1
  have hgl : g < w.heap.size := hm.lt.2 g rfl
  have d1 : w1.cell? ⟨b, 0, none⟩ = some (.slice (some ⟨g, 0, none⟩) its.length cap) := hm1.blk.cell 0
  obtain ⟨ti, hti, htz, htsz, htby⟩ := info_parts rowRItems.info
  have HI := hid (And.intro hti (And.intro htz (And.intro htsz htby)))
  have HT := hid (World.ownsRow_made w1 (e := 48) (size := 2) #[] 0 (Nat.le_refl _) (Nat.zero_le _) rfl)
  have hn1 : ∀ j u, ((its.take i).flatMap It.cells)[j]? = some u → (w1.alloc (.cells #[] 48)).cell? ((⟨g, 0, none⟩ : Addr).add j) = some u := by
    intro j u hu
    have h := flat_take_get its i hu
    have hj : j < its.length * 2 := by have := (List.getElem?_eq_some_iff.1 h).1; rw [flat_len] at this; exact this
    rw [add_at, Nat.zero_add, World.cell?_alloc_lt w1 _ _ (show g < w1.heap.size by omega), World.ownsRow.cellAt hm1.row _ hj, h]
  have hone : ∀ u ∈ (its.take i).flatMap It.cells, u.oneCell' = true := List.all_eq_true.1 (cells_one _)
  have hlen1 : ((its.take i).flatMap It.cells).length = i * 2 := by rw [flat_len, List.length_take, Nat.min_eq_left (Nat.le_of_lt hi)]
  have hmx : 0 + i ≤ maxLen := by unfold maxLen; omega
  have HN := hid (And.intro hn1 (And.intro hone (And.intro hlen1 (And.intro hmx (And.intro (by omega : (0 + i) * 32 ≤ 140737488355328) (by simp : w1.heap.size ≤ (w1.alloc (.cells #[] 48)).heap.size))))))
  have HH := hid (And.intro hm (And.intro hx (And.intro hm1 (And.intro hX1 (And.intro hY1 (And.intro hB1 hl))))))
  have HW := hid (And.intro hw0 (And.intro hw1 (And.intro hz0 hz1)))
  have hbl1 : b < w1.heap.size := by omega
  clear hz0 hz1
  have i1 : (i : Int) < its.length := by omega
  have i2 : 0 ≤ (i : Int) + 1 := by omega
  have i3 : (i : Int) + 1 ≤ its.length := by omega
  have i4 : (its.length : Int) ≤ cap := by omega
  have i5 : (i : Int) ≤ cap := by omega
  unfold maxLen at hcm
  have hi1 : i < its.length := hi
  clear hw0 hw1 hm hm0 hX hB hx hb1 hX1 hY1 hm1 hB1 hti htz htsz htby hn1 hone hlen1 hmx hl
  go_enter Try.func19, Try.ntmps19
  go_upto_region 1 with (fail)
  rw [← HW.out.1]
  go_upto_region 4 with (fail)
  rw [← HW.out.2.1]
  clear x0 x1 d0
  go_upto_region 5 with (at_builtin; refine wpList_append_own _ rfl _ _ 42 rfl w1.heap.size 48 ti (.agg #[.int .i64 0, .slice none 0 0]) 2 32 Try.underlying42 HI.out.1 HI.out.2.1 HI.out.2.2.1 HI.out.2.2.2 rfl (by decide) _ 0 [] rfl HT.out ⟨g, 0, none⟩ i cap _ rfl HN.out.2.2.1 HN.out.1 HN.out.2.1 HN.out.2.2.2.1 HN.out.2.2.2.2.1 HN.out.2.2.2.2.2 ?_; intro v1 w3 hown1 hg1 _)
  rw [Nat.zero_add, List.nil_append] at hown1
  have hb3 := ((Below.refl w1.heap.size w1).alloc (Nat.le_refl _) (.cells #[] 48)).grown hg1 HN.out.2.2.2.2.2 (fun k hk => Nat.le_of_eq (Option.some.inj hk))
  have d3 : w3.cell? ⟨b, 0, none⟩ = some (.slice (some ⟨g, 0, none⟩) its.length cap) := (hb3.cell (p := ⟨b, 0, none⟩) hbl1).trans d1
  have HO := hid (And.intro hown1 hb3.size)
  have HBX := hid hb3
  have HB3 := hid (HH.out.2.2.2.2.2.1.trans (hb3.mono HH.out.2.2.2.2.2.1.size))
  have HZ : Hid (w.heap.size ≤ w1.heap.size) := HH.out.2.2.2.2.2.1.size
  have HZ2 : Hid (w.heap.size < w1.heap.size) := by have h1 := HW.out.2.2.1; have h2 := HW.out.2.2.2; rw [Hid]; omega
  have HF : Hid (i + (its.length - (i + 1)) = (its.eraseIdx i).length) := by rw [Hid, List.length_eraseIdx_of_lt hi]; omega
  have HE := hid (erase_flat its i)
  have n1 : ¬ b = w.heap.size := by omega
  have n2 : ¬ b = w0.heap.size := by have h1 := HW.out.2.2.1; omega
  have n3 : ¬ w0.heap.size = b := by have h1 := HW.out.2.2.1; omega
  have n4 : ¬ w.heap.size = w0.heap.size := by have h1 := HW.out.2.2.1; omega
  have hrow1 := HH.out.2.2.1.row
  have hn2 : ∀ ad : Addr, (i + 1 < its.length → ad = ⟨g, (i + 1) * 2, none⟩) → ∀ j u, ((its.drop (i + 1)).flatMap It.cells)[j]? = some u → w3.cell? (ad.add j) = some u := by
    intro ad had j u hu
    have h := flat_drop_get its (i + 1) hi hu
    have hj : (i + 1) * 2 + j < its.length * 2 := by have := (List.getElem?_eq_some_iff.1 h).1; rw [flat_len] at this; exact this
    rw [had (by omega), add_at, (HBX.out).cell (p := ⟨g, (i + 1) * 2 + j, none⟩) (show g < w1.heap.size by have := HZ.out; omega), World.ownsRow.cellAt hrow1 _ hj, h]
  have hone2 : ∀ u ∈ (its.drop (i + 1)).flatMap It.cells, u.oneCell' = true := List.all_eq_true.1 (cells_one _)
  have hlen2 : ((its.drop (i + 1)).flatMap It.cells).length = (its.length - (i + 1)) * 2 := by rw [flat_len, List.length_drop]
  have hmx2 : i + (its.length - (i + 1)) ≤ maxLen := by have := HH.out.2.2.2.2.2.2; unfold maxLen; omega
  have hby2 : (i + (its.length - (i + 1))) * 32 ≤ 140737488355328 := by have := HH.out.2.2.2.2.2.2; omega
  clear hown1 hg1 hb3 d1 hrow1
  by_cases hce : cap = i + 1
  · have e0 : its.length - (i + 1) = 0 := by omega
    rw [e0] at hlen2 hmx2 hby2 HF
    have HS := hid (And.intro (hn2 ⟨g, 0, none⟩ (fun h => by omega)) (And.intro hone2 (And.intro hlen2 (And.intro hmx2 hby2))))
    clear e0 hn2 hone2 hlen2 hmx2 hby2
    subst hce
    go_wp2_with (
      at_builtin
      refine wpList_append_own _ rfl _ _ 42 rfl w1.heap.size 48 ti (.agg #[.int .i64 0, .slice none 0 0]) 2 32 Try.underlying42 HI.out.1 HI.out.2.1 HI.out.2.2.1 HI.out.2.2.2 rfl (by decide) _ i _ rfl HO.out.1 ⟨g, 0, none⟩ 0 0 _ rfl HS.out.2.2.1 HS.out.1 HS.out.2.1 HS.out.2.2.2.1 HS.out.2.2.2.2 HO.out.2 ?_
      intro v2 w4 hown2 hg2 _
      rw [HF.out, HE.out] at hown2
      obtain ⟨A2, k2, rfl, _, _, _⟩ := Sl.row hown2
      have hb4 := HB3.out.grown hg2 HB3.out.size (fun k hk => Nat.le_trans HZ.out (HO.out.1.lt k hk).1)
      have hX4 := (Eff.of_below (S := fun _ => False) (HBX.out.grown hg2 HO.out.2 (fun k hk => (HO.out.1.lt k hk).1))).blk HH.out.2.2.2.1 (fun h => h)
      have hY4 := (Eff.of_below (S := fun _ => False) (HBX.out.grown hg2 HO.out.2 (fun k hk => (HO.out.1.lt k hk).1))).blk HH.out.2.2.2.2.1 (fun h => h)
      have hM4 := HH.out.2.2.1.below (HBX.out.grown hg2 HO.out.2 (fun k hk => (HO.out.1.lt k hk).1))
      have HD := hid (rTake_done HH.out.1 HH.out.2.1 hb4 hown2 HZ2.out hX4)
      have p0 : w4.cell? ⟨b, 0, none⟩ = some (.slice (some ⟨g, 0, none⟩) its.length (i + 1)) := hM4.blk.cell 0
      have p1 : w4.cell? ⟨w0.heap.size, 0, none⟩ = some (.int .i64 x.dst) := hY4.cell 0
      have p2 : w4.cell? ⟨w0.heap.size, 1, none⟩ = some (.slice x.A x.bs.length x.c) := hY4.cell 1
      have p3 : w4.cell? ⟨w.heap.size, 0, none⟩ = some (.int .i64 0) := hX4.cell 0
      have p4 : w4.cell? ⟨w.heap.size, 1, none⟩ = some (.slice none 0 0) := hX4.cell 1
      have f0 : ∀ o, w4.frozen? ⟨b, o, none⟩ = false := hM4.blk.frozen
      have f1 : ∀ o, w4.frozen? ⟨w.heap.size, o, none⟩ = false := hX4.frozen
      clear hown2 hg2 hb4 hX4 hY4 hM4)
    refine ret_ritem (p := 4) (t := 5) Try.results19 w.heap.size x true 48 (by rfl) HD.out.1 (by rfl) (by rfl) ?_
    exact HD.out.2
  · have HS := hid (And.intro (hn2 ⟨g, (i + 1) * 2, none⟩ (fun h => rfl)) (And.intro hone2 (And.intro hlen2 (And.intro hmx2 hby2))))
    clear hn2 hone2 hlen2 hmx2 hby2
    go_wp2_with (
      at_builtin
      refine wpList_append_own _ rfl _ _ 42 rfl w1.heap.size 48 ti (.agg #[.int .i64 0, .slice none 0 0]) 2 32 Try.underlying42 HI.out.1 HI.out.2.1 HI.out.2.2.1 HI.out.2.2.2 rfl (by decide) _ i _ rfl HO.out.1 ⟨g, (i + 1) * 2, none⟩ (its.length - (i + 1)) _ _ rfl HS.out.2.2.1 HS.out.1 HS.out.2.1 HS.out.2.2.2.1 HS.out.2.2.2.2 HO.out.2 ?_
      intro v2 w4 hown2 hg2 _
      rw [HF.out, HE.out] at hown2
      obtain ⟨A2, k2, rfl, _, _, _⟩ := Sl.row hown2
      have hb4 := HB3.out.grown hg2 HB3.out.size (fun k hk => Nat.le_trans HZ.out (HO.out.1.lt k hk).1)
      have hX4 := (Eff.of_below (S := fun _ => False) (HBX.out.grown hg2 HO.out.2 (fun k hk => (HO.out.1.lt k hk).1))).blk HH.out.2.2.2.1 (fun h => h)
      have hY4 := (Eff.of_below (S := fun _ => False) (HBX.out.grown hg2 HO.out.2 (fun k hk => (HO.out.1.lt k hk).1))).blk HH.out.2.2.2.2.1 (fun h => h)
      have hM4 := HH.out.2.2.1.below (HBX.out.grown hg2 HO.out.2 (fun k hk => (HO.out.1.lt k hk).1))
      have HD := hid (rTake_done HH.out.1 HH.out.2.1 hb4 hown2 HZ2.out hX4)
      have p0 : w4.cell? ⟨b, 0, none⟩ = some (.slice (some ⟨g, 0, none⟩) its.length cap) := hM4.blk.cell 0
      have p1 : w4.cell? ⟨w0.heap.size, 0, none⟩ = some (.int .i64 x.dst) := hY4.cell 0
      have p2 : w4.cell? ⟨w0.heap.size, 1, none⟩ = some (.slice x.A x.bs.length x.c) := hY4.cell 1
      have p3 : w4.cell? ⟨w.heap.size, 0, none⟩ = some (.int .i64 0) := hX4.cell 0
      have p4 : w4.cell? ⟨w.heap.size, 1, none⟩ = some (.slice none 0 0) := hX4.cell 1
      have f0 : ∀ o, w4.frozen? ⟨b, o, none⟩ = false := hM4.blk.frozen
      have f1 : ∀ o, w4.frozen? ⟨w.heap.size, o, none⟩ = false := hX4.frozen
      clear hown2 hg2 hb4 hX4 hY4 hM4)
    refine ret_ritem (p := 4) (t := 5) Try.results19 w.heap.size x true 48 (by rfl) HD.out.1 (by rfl) (by rfl) ?_
    exact HD.out.2
end Go.Proofs.Ytnhfnklbeifbhaa
