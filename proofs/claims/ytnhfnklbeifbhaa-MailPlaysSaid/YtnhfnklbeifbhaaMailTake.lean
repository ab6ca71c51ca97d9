/- Frames on their way: one is taken out. -/
import Derived.Test.YtnhfnklbeifbhaaMailDel
import Derived.Test.YtnhfnklbeifbhaaMailSwap
namespace Go.Proofs.Ytnhfnklbeifbhaa
open Go.RowKit
set_option linter.unusedSimpArgs false

theorem ret_item {fn : Func} {R : Ending → World → Prop} {a : Act} {w : World} {p t : Tmp} (h : fn.results = #[.cell p 31, .tmp t]) (X : Nat) (x : It) (u : Bool) (E : TypeId)
    (hp : a.tmps.getD p undef = .pointer (some ⟨X, 0, none⟩)) (hb : Blk w X x.cells E) (hu : a.tmps.getD t undef = .bool u) (hd : a.defers = []) (hR : R (.returned (.tuple #[x.val, .bool u])) w) : bodyPost Try.prog fn R .ret a w := by
  have h0 : w.cell? ⟨X, 0, none⟩ = some (.int .i64 x.dst) := hb.cell 0
  have h1 : w.cell? ⟨X, 1, none⟩ = some (.slice x.A x.bs.length x.c) := hb.cell 1
  refine bodyPost_ret (v := .tuple #[x.val, .bool u]) ?_ hd hR
  have hp' : a.tmps[p]?.getD undef = .pointer (some ⟨X, 0, none⟩) := by simpa using hp
  have hu' : a.tmps[t]?.getD undef = .bool u := by simpa using hu
  simp [results, h, hp', hu', h0, h1, It.val, go_sem]

set_option maxHeartbeats 1600000 in
theorem takeNo_any {b : Nat} {v : Value} {its : List It} {lost : Int} (i : Int) (w : World) (hm : MailIs w b v its lost) (hn : ¬ (0 ≤ i ∧ i < its.length)) :
    Calls Try.prog 11 #[.pointer (some ⟨b, 0, none⟩), .int .i64 i] w fun e w' => e = .returned (.tuple #[.agg #[.int .i64 0, .slice none 0 0], .bool false]) ∧ Below w.heap.size w w' := by
  have H1 := hid (not_is hn)
  have hz := zero_item
  obtain ⟨w0, hw0⟩ : ∃ w0, w0 = w.alloc (.cells #[.int .i64 0, .slice none 0 0] 31) := ⟨_, rfl⟩
  have hX : Blk w0 w.heap.size [.int .i64 0, .slice none 0 0] 31 := by rw [hw0]; exact Blk.new w _ _
  have hB : Below w.heap.size w w0 := by rw [hw0]; exact (Below.refl _ _).alloc (Nat.le_refl _) _
  have HM := hid (hm.below hB)
  have HW := hid hw0
  clear hw0 hm hn
  go_enter Try.func11, Try.ntmps11
  go_wp2_with fail
  rw [← HW.out]
  refine (is_any i _ HM.out).mono ?_
  rintro e w' ⟨rfl, rfl⟩
  rw [H1.out]
  have c0 : w0.cell? ⟨w.heap.size, 0, none⟩ = some (.int .i64 0) := hX.cell 0
  have c1 : w0.cell? ⟨w.heap.size, 1, none⟩ = some (.slice none 0 0) := hX.cell 1
  have cf : ∀ o, w0.frozen? ⟨w.heap.size, o, none⟩ = false := hX.frozen
  have hX2 := (hX.set 0 (.int .i64 0)).set 1 (.slice none 0 0)
  have hB2 := (hB.setCell (p := ⟨w.heap.size, 0, none⟩) (Nat.le_refl _) (.int .i64 0)).setCell (p := ⟨w.heap.size, 1, none⟩) (Nat.le_refl _) (.slice none 0 0)
  have HX := hid (And.intro hX2 hB2)
  clear hX hB hX2 hB2
  go_wp2_with fail
  refine ret_item (p := 4) (t := 5) Try.results11 w.heap.size ⟨0, none, 0, []⟩ false 31 (by rfl) HX.out.1 (by rfl) (by rfl) ?_
  exact ⟨rfl, HX.out.2⟩

def GivesTake (w : World) (b : Nat) (v : Value) (its : List It) (lost : Int) (x : It) (e : Ending) (w' : World) : Prop :=
  ∃ v', e = .returned (.tuple #[x.val, .bool true]) ∧ MailIs w' b v' its lost ∧ x.here w' ∧ x.free w' ∧ (∀ a, x.A = some a → a.block < w.heap.size) ∧ v'.ownBlock = v.ownBlock ∧ Eff (MailOwn b v) w w'

/-- Behind the stores: the mail without it, and the item in its result's block. -/
theorem take_done {w w1 w2 : World} {b g cap i : Nat} {its : List It} {lost : Int} {x : It} (hm : MailIs w b (.slice (some ⟨g, 0, none⟩) its.length cap) its lost) (hxh : x.here w) (hxr : x.free w) (hxo : ∀ a, x.A = some a → a.block < w.heap.size) (hxf : x.off (fun k => k = b ∨ (Value.slice (some ⟨g, 0, none⟩) its.length cap).ownBlock = some k)) (hB : Below w.heap.size w w1)
    (hm1 : MailIs w1 b (.slice (some ⟨g, 0, none⟩) its.length cap) its lost) (hrow : w2.ownsRow 0 31 2 (.slice (some ⟨g, 0, none⟩) (its.eraseIdx i).length cap) (its.eraseIdx i).length ((its.eraseIdx i).flatMap It.cells)) (he2 : Eff (· = g) w1 w2)
    (hX : Blk w2 w.heap.size [.int .i64 0, .slice none 0 0] 31) (hgb : ¬ g = b) :
    Blk (((w2.setCell ⟨b, 0, none⟩ (.slice (some ⟨g, 0, none⟩) (its.eraseIdx i).length cap)).setCell ⟨w.heap.size, 0, none⟩ (.int .i64 x.dst)).setCell ⟨w.heap.size, 1, none⟩ (.slice x.A x.bs.length x.c)) w.heap.size x.cells 31 ∧
    GivesTake w b (.slice (some ⟨g, 0, none⟩) its.length cap) (its.eraseIdx i) lost x (.returned (.tuple #[x.val, .bool true]))
      (((w2.setCell ⟨b, 0, none⟩ (.slice (some ⟨g, 0, none⟩) (its.eraseIdx i).length cap)).setCell ⟨w.heap.size, 0, none⟩ (.int .i64 x.dst)).setCell ⟨w.heap.size, 1, none⟩ (.slice x.A x.bs.length x.c)) := by
  have hgl := hm.lt.2 g rfl
  have hbl := hm.lt.1
  have hlt := hm1.lt
  have hb2 := he2.blk hm1.blk (fun h => hgb h.symm)
  have he3 : Eff (· = b) w2 (w2.setCell ⟨b, 0, none⟩ (.slice (some ⟨g, 0, none⟩) (its.eraseIdx i).length cap)) := (Eff.one b w2).set 0 _
  have hX3 := he3.blk hX (by omega)
  have he4 := ((Eff.one w.heap.size (w2.setCell ⟨b, 0, none⟩ (.slice (some ⟨g, 0, none⟩) (its.eraseIdx i).length cap))).set 0 (.int .i64 x.dst)).set 1 (.slice x.A x.bs.length x.c)
  have hmem : ∀ z ∈ its.eraseIdx i, z ∈ its := fun z hz => List.mem_of_mem_eraseIdx hz
  have hall : ∀ z : It, z.here w → (∀ a, z.A = some a → a.block < w.heap.size) → z.off (fun k => k = b ∨ (Value.slice (some ⟨g, 0, none⟩) its.length cap).ownBlock = some k) →
      z.here (((w2.setCell ⟨b, 0, none⟩ (.slice (some ⟨g, 0, none⟩) (its.eraseIdx i).length cap)).setCell ⟨w.heap.size, 0, none⟩ (.int .i64 x.dst)).setCell ⟨w.heap.size, 1, none⟩ (.slice x.A x.bs.length x.c)) := fun z h1 h2 h3 =>
    (((h1.below hB).eff he2 (fun a ha h => h3 a ha (.inr (by rw [h]; rfl)))).eff he3 (fun a ha h => h3 a ha (.inl h))).eff he4 (fun a ha h => by have := h2 a ha; omega)
  have hfree : ∀ z : It, z.free w → (∀ a, z.A = some a → a.block < w.heap.size) → z.off (fun k => k = b ∨ (Value.slice (some ⟨g, 0, none⟩) its.length cap).ownBlock = some k) →
      z.free (((w2.setCell ⟨b, 0, none⟩ (.slice (some ⟨g, 0, none⟩) (its.eraseIdx i).length cap)).setCell ⟨w.heap.size, 0, none⟩ (.int .i64 x.dst)).setCell ⟨w.heap.size, 1, none⟩ (.slice x.A x.bs.length x.c)) := fun z h1 h2 h3 =>
    h1.eff ((((Eff.of_below (S := fun k => k = b ∨ k = g ∨ k = w.heap.size) hB).step he2 (fun j _ h => .inr (.inl h))).step he3 (fun j _ h => .inl h)).step he4 (fun j _ h => .inr (.inr h)))
      (fun a ha h => by
        rcases h with h | h | h
        · exact h3 a ha (.inl h)
        · exact h3 a ha (.inr (by rw [h]; rfl))
        · have := h2 a ha; omega) h2
  refine ⟨(hX3.set 0 _).set 1 _, .slice (some ⟨g, 0, none⟩) (its.eraseIdx i).length cap, rfl, ⟨?_, ?_, ?_, ?_, ?_, ?_, ?_⟩, ?_, ?_, hxo, rfl, ?_⟩
  · exact he4.blk (hb2.set 0 _) (by omega)
  · exact he4.row (he3.row hrow (fun k hk h => hgb ((Option.some.inj hk).trans h))) (fun k hk h => by have e : g = k := Option.some.inj hk; omega)
  · exact fun e => hgb (Option.some.inj e)
  · exact fun z hz => hall z (hm.here z (hmem z hz)) (hm.old z (hmem z hz)) (hm.off z (hmem z hz))
  · exact fun z hz => hm.off z (hmem z hz)
  · exact fun z hz a ha => by have := hm.old z (hmem z hz) a ha; have := hB.size; have := he2.size; simp; omega
  · exact fun z hz => hfree z (hm.free z (hmem z hz)) (hm.old z (hmem z hz)) (hm.off z (hmem z hz))
  · exact hall x hxh hxo hxf
  · exact hfree x hxr hxo hxf
  · exact ((((Eff.of_below hB).step he2 (fun j _ h => .inr (by rw [h]; rfl))).step he3 (fun j _ h => .inl h)).step he4 (fun j hj h => by omega))

set_option maxHeartbeats 4000000 in
set_option maxRecDepth 100000 in
theorem take_any {b : Nat} {v : Value} {its : List It} {lost : Int} (i : Nat) (x : It) (w : World) (hm : MailIs w b v its lost) (hx : its[i]? = some x) :
    Calls Try.prog 11 #[.pointer (some ⟨b, 0, none⟩), .int .i64 i] w (GivesTake w b v (its.eraseIdx i) lost x) := by
  have hi := (List.getElem?_eq_some_iff.1 hx).1
  have H1 := hid (is_in (its := its) (i := i) ⟨by omega, by omega⟩)
  have hz := zero_item
  have hbX : ¬ w.heap.size = b := fun h => by have := hm.blk.lt; omega
  obtain ⟨w0, hw0⟩ : ∃ w0, w0 = w.alloc (.cells #[.int .i64 0, .slice none 0 0] 31) := ⟨_, rfl⟩
  have hX : Blk w0 w.heap.size [.int .i64 0, .slice none 0 0] 31 := by rw [hw0]; exact Blk.new w _ _
  have hB : Below w.heap.size w w0 := by rw [hw0]; exact (Below.refl _ _).alloc (Nat.le_refl _) _
  have hm0 := hm.below hB
  obtain ⟨g, cap, rfl, hcap, hcm, x0, x1⟩ := row_item hm0.row hx
  have d0 : w0.cell? ⟨b, 0, none⟩ = some (.slice (some ⟨g, 0, none⟩) its.length cap) := hm0.blk.cell 0
  have HW := hid hw0
  have HM0 := hid hm0
  have HM := hid hm
  have i1 : (i : Int) < its.length := by omega
  have i1' : i < its.length := hi
  unfold maxLen at hcm
  have HXB := hid (And.intro hX hB)
  have hbl : b < w0.heap.size := hm0.blk.lt
  have hxh := hm.here x (List.mem_of_getElem? hx)
  have hxo := hm.old x (List.mem_of_getElem? hx)
  have hxf := hm.off x (List.mem_of_getElem? hx)
  have hxr := hm.free x (List.mem_of_getElem? hx)
  have HXO := hid (And.intro hxh (And.intro hxr (And.intro hxo hxf)))
  clear hw0 hm hm0 hX hB hxh hxr hxo hxf hx
  go_enter Try.func11, Try.ntmps11
  go_wp2_with fail
  rw [← HW.out]
  refine (is_any i _ HM0.out).mono ?_
  rintro e w' ⟨rfl, rfl⟩
  rw [H1.out]
  go_wp2_with fail
  obtain ⟨w1, hw1⟩ : ∃ w1, w1 = w0.alloc (.cells #[.int .i64 x.dst, .slice x.A x.bs.length x.c] 31) := ⟨_, rfl⟩
  have hY1 : Blk w1 w0.heap.size x.cells 31 := by rw [hw1]; exact Blk.new w0 _ _
  have hb1 : Below w0.heap.size w0 w1 := by rw [hw1]; exact (Below.refl _ _).alloc (Nat.le_refl _) _
  rw [← hw1]
  have hX1 := (Eff.of_below (S := fun _ => False) hb1).blk HXB.out.1 (fun h => h)
  have hm1 := HM0.out.below hb1
  have hB1 := HXB.out.2.trans (hb1.mono HXB.out.2.size)
  clear hw1 d0 x0 x1 hbl
  refine (del_any i w1 hm1.row i1').mono ?_
  rintro e w2 ⟨rfl, hrow2, he2⟩
  have hgl := (HM.out.lt).2 g rfl
  have hblt := HM.out.blk.lt
  have hz0 := HXB.out.1.lt
  have hgb : ¬ g = b := fun h => HM.out.nb (by rw [h]; rfl)
  have hX2 := he2.blk hX1 (by omega)
  have hY2 := he2.blk hY1 (by omega)
  have hb2 := he2.blk hm1.blk (fun h => hgb h.symm)
  have p0 : w2.cell? ⟨b, 0, none⟩ = some (.slice (some ⟨g, 0, none⟩) its.length cap) := hb2.cell 0
  have p1 : w2.cell? ⟨w0.heap.size, 0, none⟩ = some (.int .i64 x.dst) := hY2.cell 0
  have p2 : w2.cell? ⟨w0.heap.size, 1, none⟩ = some (.slice x.A x.bs.length x.c) := hY2.cell 1
  have p3 : w2.cell? ⟨w.heap.size, 0, none⟩ = some (.int .i64 0) := hX2.cell 0
  have p4 : w2.cell? ⟨w.heap.size, 1, none⟩ = some (.slice none 0 0) := hX2.cell 1
  have f0 : ∀ o, w2.frozen? ⟨b, o, none⟩ = false := hb2.frozen
  have f1 : ∀ o, w2.frozen? ⟨w.heap.size, o, none⟩ = false := hX2.frozen
  have n1 : ¬ b = w.heap.size := by omega
  have n2 : ¬ b = w0.heap.size := by omega
  have n3 : ¬ w0.heap.size = b := by omega
  have HD := hid (take_done HM.out HXO.out.1 HXO.out.2.1 HXO.out.2.2.1 HXO.out.2.2.2 hB1 hm1 hrow2 he2 hX2 hgb)
  clear hX1 hY1 hb1 hm1 hB1 hrow2 he2 hX2 hY2 hb2 hgl hblt hz0
  go_wp2_with fail
  refine ret_item (p := 4) (t := 5) Try.results11 w.heap.size x true 31 (by rfl) HD.out.1 (by rfl) (by rfl) ?_
  exact HD.out.2
end Go.Proofs.Ytnhfnklbeifbhaa
