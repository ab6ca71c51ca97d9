/- The document's frames on their way: Swap. -/
import Derived.Test.YtnhfnklbeifbhaaRefTake
import Derived.Deep.CutBlock
namespace Go.Proofs.Ytnhfnklbeifbhaa
open Go.RowKit
set_option linter.unusedSimpArgs false

set_option maxHeartbeats 1600000 in
theorem rSwapNo_any {b : Nat} {v : Value} {its : List It} {lost : Int} (i k : Int) (w : World) (hm : RMailIs w b v its lost) (hn : ¬ ((0 ≤ i ∧ i < its.length) ∧ (0 ≤ k ∧ k < its.length))) :
    Calls Try.prog 21 #[.pointer (some ⟨b, 0, none⟩), .int .i64 i, .int .i64 k] w fun e w' => e = .returned (.bool false) ∧ w = w' := by
  obtain ⟨A0, c0, rfl, _, _, _⟩ := Sl.row hm.row
  have d0 : w.cell? ⟨b, 0, none⟩ = some (.slice A0 its.length c0) := hm.blk.cell 0
  clear hm
  by_cases h0 : i < 0
  · clear hn
    go_enter Try.func21, Try.ntmps21
    go_wp2_with fail
    go_ret
    exact ⟨rfl, rfl⟩
  · have h1 : 0 ≤ i := by omega
    clear h0
    by_cases h2 : (its.length : Int) ≤ i
    · clear hn
      go_enter Try.func21, Try.ntmps21
      go_wp2_with fail
      go_ret
      exact ⟨rfl, rfl⟩
    · have h3 : i < its.length := by omega
      clear h2
      by_cases h4 : k < 0
      · clear hn
        go_enter Try.func21, Try.ntmps21
        go_wp2_with fail
        go_ret
        exact ⟨rfl, rfl⟩
      · have h5 : 0 ≤ k := by omega
        have h6 : (its.length : Int) ≤ k := by omega
        clear hn h4
        go_enter Try.func21, Try.ntmps21
        go_wp2_with fail
        go_ret
        exact ⟨rfl, rfl⟩

def RGivesSwap (w : World) (b : Nat) (v : Value) (its : List It) (lost : Int) (e : Ending) (w' : World) : Prop := e = .returned (.bool true) ∧ RMailIs w' b v its lost ∧ Eff (MailOwn b v) w w'
theorem RGivesSwap.drawn {w w' : World} {b : Nat} {v : Value} {its : List It} {lost : Int} {e : Ending} (h : RGivesSwap w b v its lost e w') : RGivesSwap w b v its lost e w'.drew := by
  obtain ⟨he, hm, h1⟩ := h
  exact ⟨he, hm.drew, h1.drew⟩

/-- An item written over another one's place. -/
theorem mail_put {w0 w : World} {b g cap i : Nat} {its : List It} {lost : Int} {y : It} (hm : RMailIs w b (.slice (some ⟨g, 0, none⟩) its.length cap) its lost) (he0 : Eff (MailOwn b (.slice (some ⟨g, 0, none⟩) its.length cap)) w0 w) (hi : i < its.length)
    (hyh : y.here w) (hyf : y.free w) (hyo : ∀ a, y.A = some a → a.block < w.heap.size) (hyn : y.off (fun k => k = b ∨ k = g)) :
    RMailIs ((w.setCell ⟨g, i * 2, none⟩ (.int .i64 y.dst)).setCell ⟨g, i * 2 + 1, none⟩ (.slice y.A y.bs.length y.c)) b (.slice (some ⟨g, 0, none⟩) (its.set i y).length cap) (its.set i y) lost ∧
      Eff (MailOwn b (.slice (some ⟨g, 0, none⟩) its.length cap)) w0 ((w.setCell ⟨g, i * 2, none⟩ (.int .i64 y.dst)).setCell ⟨g, i * 2 + 1, none⟩ (.slice y.A y.bs.length y.c)) ∧
      Eff (· = g) w ((w.setCell ⟨g, i * 2, none⟩ (.int .i64 y.dst)).setCell ⟨g, i * 2 + 1, none⟩ (.slice y.A y.bs.length y.c)) := by
  have he : Eff (fun j => j = g) w ((w.setCell ⟨g, i * 2, none⟩ (.int .i64 y.dst)).setCell ⟨g, i * 2 + 1, none⟩ (.slice y.A y.bs.length y.c)) := ((Eff.one g w).set _ _).set _ _
  have hrow := World.ownsRow.stored hm.row (i * 2) (.int .i64 y.dst)
  have hrow2 := World.ownsRow.stored hrow.1 (i * 2 + 1) (.slice y.A y.bs.length y.c)
  have hr := hrow2.1
  rw [flat_put its i y hi] at hr
  have hgb : ¬ g = b := fun h => hm.nb (by rw [h]; rfl)
  have hoff : ∀ z ∈ its, z.off (fun j => j = g) := fun z hz a ha h => hm.off z hz a ha (.inr (by rw [h]; rfl))
  have hyg : y.off (fun j => j = g) := fun a ha h => hyn a ha (.inr h)
  have hlen : (its.set i y).length = its.length := by simp
  refine ⟨⟨he.blk (by rw [hlen]; exact hm.blk) (fun h => hgb h.symm), by rw [hlen]; exact hr, (fun h => hgb (Option.some.inj h)), fun z hz => ?_, fun z hz a ha h => ?_, fun z hz a ha => ?_, fun z hz => ?_⟩, he0.step he (fun j _ h => .inr (by rw [h]; rfl)), he⟩
  · rcases List.mem_or_eq_of_mem_set hz with hz | rfl
    · exact (hm.here z hz).eff he (hoff z hz)
    · exact hyh.eff he hyg
  · rcases List.mem_or_eq_of_mem_set hz with hz | rfl
    · rcases h with h | h
      · exact hm.off z hz a ha (.inl h)
      · exact hm.off z hz a ha (.inr h)
    · rcases h with h | h
      · exact hyn a ha (.inl h)
      · exact hyn a ha (.inr (Option.some.inj h).symm)
  · rcases List.mem_or_eq_of_mem_set hz with hz | rfl
    · exact Nat.lt_of_lt_of_le (hm.old z hz a ha) he.size
    · exact Nat.lt_of_lt_of_le (hyo a ha) he.size
  · rcases List.mem_or_eq_of_mem_set hz with hz | rfl
    · exact (hm.free z hz).eff he (hoff z hz) (hm.old z hz)
    · exact hyf.eff he hyg hyo

set_option maxRecDepth 100000 in
set_option maxHeartbeats 4000000 in
theorem rSwap_any {b : Nat} {v : Value} {its : List It} {lost : Int} (i k : Nat) (x y : It) (w : World) (hm : RMailIs w b v its lost) (hx : its[i]? = some x) (hy : its[k]? = some y) :
    Calls Try.prog 21 #[.pointer (some ⟨b, 0, none⟩), .int .i64 i, .int .i64 k] w (RGivesSwap w b v ((its.set i y).set k x) lost) := by
  have hi := (List.getElem?_eq_some_iff.1 hx).1
  have hk := (List.getElem?_eq_some_iff.1 hy).1
  have hxm := List.mem_of_getElem? hx
  have hym := List.mem_of_getElem? hy
  obtain ⟨g, cap, rfl, hcap, hcm, x0, x1⟩ := row_item hm.row hx
  obtain ⟨g', cap', he, _, _, y0, y1⟩ := row_item hm.row hy
  simp only [Value.slice.injEq, Option.some.injEq, Addr.mk.injEq, and_true, true_and] at he
  obtain ⟨rfl, rfl⟩ := he
  have d0 : w.cell? ⟨b, 0, none⟩ = some (.slice (some ⟨g, 0, none⟩) its.length cap) := hm.blk.cell 0
  have hbl : b < w.heap.size := hm.lt.1
  have hgl : g < w.heap.size := hm.lt.2 g rfl
  have hgb : ¬ g = b := fun h => hm.nb (by rw [h]; rfl)
  obtain ⟨w1, hw1⟩ : ∃ w1, w1 = w.alloc (.cells #[.int .i64 x.dst, .slice x.A x.bs.length x.c] 48) := ⟨_, rfl⟩
  have hX1 : Blk w1 w.heap.size x.cells 48 := by rw [hw1]; exact Blk.new w _ _
  have hb1 : Below w.heap.size w w1 := by rw [hw1]; exact (Below.refl _ _).alloc (Nat.le_refl _) _
  have hz1 : w1.heap.size = w.heap.size + 1 := by rw [hw1]; simp
  obtain ⟨w2, hw2⟩ : ∃ w2, w2 = w1.alloc (.cells #[.int .i64 y.dst, .slice y.A y.bs.length y.c] 48) := ⟨_, rfl⟩
  have hY2 : Blk w2 w1.heap.size y.cells 48 := by rw [hw2]; exact Blk.new w1 _ _
  have hb2 : Below w1.heap.size w1 w2 := by rw [hw2]; exact (Below.refl _ _).alloc (Nat.le_refl _) _
  have hX2 := (Eff.of_below (S := fun _ => False) hb2).blk hX1 (fun h => h)
  have hB2 := hb1.trans (hb2.mono hb1.size)
  have hm2 := hm.below hB2
  have y0' : w1.cell? ⟨g, k * 2, none⟩ = some (.int .i64 y.dst) := (hb1.cell (p := ⟨g, k * 2, none⟩) hgl).trans y0
  have y1' : w1.cell? ⟨g, k * 2 + 1, none⟩ = some (.slice y.A y.bs.length y.c) := (hb1.cell (p := ⟨g, k * 2 + 1, none⟩) hgl).trans y1
  have d1 : w1.cell? ⟨b, 0, none⟩ = some (.slice (some ⟨g, 0, none⟩) its.length cap) := (hb1.cell (p := ⟨b, 0, none⟩) hbl).trans d0
  have d2 : w2.cell? ⟨b, 0, none⟩ = some (.slice (some ⟨g, 0, none⟩) its.length cap) := hm2.blk.cell 0
  have e0 : w2.cell? ⟨w.heap.size, 0, none⟩ = some (.int .i64 x.dst) := hX2.cell 0
  have e1 : w2.cell? ⟨w.heap.size, 1, none⟩ = some (.slice x.A x.bs.length x.c) := hX2.cell 1
  have f0 : w2.cell? ⟨w1.heap.size, 0, none⟩ = some (.int .i64 y.dst) := hY2.cell 0
  have f1 : w2.cell? ⟨w1.heap.size, 1, none⟩ = some (.slice y.A y.bs.length y.c) := hY2.cell 1
  have fz : ∀ o, w2.frozen? ⟨g, o, none⟩ = false := fun o => World.ownsRow.frozenAt hm2.row o
  have q0 : w2.cell? ⟨g, i * 2, none⟩ = some (.int .i64 x.dst) := (hB2.cell (p := ⟨g, i * 2, none⟩) hgl).trans x0
  have q1 : w2.cell? ⟨g, i * 2 + 1, none⟩ = some (.slice x.A x.bs.length x.c) := (hB2.cell (p := ⟨g, i * 2 + 1, none⟩) hgl).trans x1
  have n1 : ¬ w.heap.size = g := by omega
  have n2 : ¬ b = g := fun h => hgb h.symm
  have hpy := mail_put hm2 (Eff.of_below hB2) hi (hm2.here y hym) (hm2.free y hym) (hm2.old y hym) (fun a ha h => hm2.off y hym a ha (h.imp_right fun e => by rw [e]; rfl))
  have hoffx : x.off (fun j => j = g) := fun a ha h => hm2.off x hxm a ha (.inr (by rw [h]; rfl))
  have hpx := mail_put hpy.1 (by simpa using hpy.2.1) (i := k) (y := x) (by simpa using hk) ((hm2.here x hxm).eff hpy.2.2 hoffx) ((hm2.free x hxm).eff hpy.2.2 hoffx (hm2.old x hxm)) (fun a ha => Nat.lt_of_lt_of_le (hm2.old x hxm a ha) hpy.2.2.size) (fun a ha h => hm2.off x hxm a ha (h.imp_right fun e => by rw [e]; rfl))
  have hlen : ((its.set i y).set k x).length = its.length := by simp
  obtain ⟨w3, hw3⟩ : ∃ w3, w3 = ((w2.setCell ⟨g, i * 2, none⟩ (.int .i64 y.dst)).setCell ⟨g, i * 2 + 1, none⟩ (.slice y.A y.bs.length y.c)) := ⟨_, rfl⟩
  rw [← hw3] at hpy hpx
  have hX3 := hpy.2.2.blk hX2 (by omega)
  have r0 : w3.cell? ⟨w.heap.size, 0, none⟩ = some (.int .i64 x.dst) := hX3.cell 0
  have r1 : w3.cell? ⟨w.heap.size, 1, none⟩ = some (.slice x.A x.bs.length x.c) := hX3.cell 1
  have d3 : w3.cell? ⟨b, 0, none⟩ = some (.slice (some ⟨g, 0, none⟩) (its.set i y).length cap) := hpy.1.blk.cell 0
  have fz3 : ∀ o, w3.frozen? ⟨g, o, none⟩ = false := fun o => World.ownsRow.frozenAt hpy.1.row o
  obtain ⟨z, hz⟩ : ∃ z, (its.set i y)[k]? = some z := ⟨_, List.getElem?_eq_getElem (by simpa using hk)⟩
  obtain ⟨g2, cap2, he2, _, _, s0, s1⟩ := row_item hpy.1.row hz
  simp only [Value.slice.injEq, Option.some.injEq, Addr.mk.injEq, and_true, true_and] at he2
  obtain ⟨rfl, rfl⟩ := he2
  have s0' : w3.cell? ⟨g, k * 2, none⟩ = some (.int .i64 z.dst) := s0
  have s1' : w3.cell? ⟨g, k * 2 + 1, none⟩ = some (.slice z.A z.bs.length z.c) := s1
  rw [List.length_set] at d3
  have HS := hid (And.intro hpx.1 (And.intro hpx.2.1 hlen))
  have HW := hid (And.intro hw1 (And.intro hw2 hw3))
  have HC := hid (And.intro r0 (And.intro r1 (And.intro d3 (And.intro fz3 (And.intro s0' s1')))))
  have i1 : (i : Int) < its.length := by omega
  have k1 : (k : Int) < its.length := by omega
  unfold maxLen at hcm
  clear hw1 hw2 hw3 hX1 hb1 hz1 hY2 hb2 hX2 hB2 hm2 hpy hoffx hpx hlen hm hx hy hX3 r0 r1 d3 fz3 s0 s1 s0' s1' hz
  go_enter Try.func21, Try.ntmps21
  go_upto_region 4 with (fail)
  rw [← HW.out.1]
  go_upto_region 5 with (fail)
  rw [← HW.out.2.1]
  go_upto_region 5 with (fail)
  go_cut [] (fun wx => wx = w3.drew)
  case first =>
    go_upto_region 6 with (fail)
    go_region
    all_goals
      go_wp2_with fail
      go_meet
      rw [HW.out.2.2]
  case rest =>
    clear d0 d1 d2 e0 e1 f0 f1 fz q0 q1 x0 x1 y0 y1 y0' y1'
    obtain rfl := hcut
    have r0 := HC.out.1
    have r1 := HC.out.2.1
    have d3 := HC.out.2.2.1
    have fz3 := HC.out.2.2.2.1
    have s0 := HC.out.2.2.2.2.1
    have s1 := HC.out.2.2.2.2.2
    clear HC
    go_upto_region 6 with (fail)
    go_region
    all_goals
      go_wp2_with fail
      go_ret
      have h := HS.out.1
      rw [HS.out.2.2] at h
      have he := HS.out.2.1
      rw [List.length_set] at he
      exact RGivesSwap.drawn (RGivesSwap.drawn ⟨rfl, h, he⟩)
end Go.Proofs.Ytnhfnklbeifbhaa
