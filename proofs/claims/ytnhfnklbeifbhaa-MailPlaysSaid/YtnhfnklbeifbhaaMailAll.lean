/- Frames on their way: all that wait, as a list of its own; a copy. -/
import Derived.Test.YtnhfnklbeifbhaaMailLaw
namespace Go.Proofs.Ytnhfnklbeifbhaa
open Go.RowKit
set_option linter.unusedSimpArgs false

/-- A list of items of its own, as it lies. -/
structure ListAt (w : World) (v : Value) (its : List It) : Prop where
  row : w.ownsRow 0 31 2 v its.length (its.flatMap It.cells)
  here : ∀ x ∈ its, x.here w
  off : ∀ x ∈ its, x.off (fun k => v.ownBlock = some k)
  old : ∀ x ∈ its, ∀ a, x.A = some a → a.block < w.heap.size
  free : ∀ x ∈ its, x.free w
def ListOwn (v : Value) (its : List It) (k : Nat) : Prop := v.ownBlock = some k ∨ ∃ x ∈ its, ∃ a, x.A = some a ∧ a.block = k
theorem ListAt.eff {S : Nat → Prop} {w w' : World} {v : Value} {its : List It} (h : ListAt w v its) (he : Eff S w w') (hS : ∀ k, ListOwn v its k → ¬ S k) : ListAt w' v its :=
  have ho : ∀ x ∈ its, x.off S := fun x hx a ha => hS _ (.inr ⟨x, hx, a, ha, rfl⟩)
  ⟨he.row h.row (fun k hk => hS k (.inl hk)), fun x hx => (h.here x hx).eff he (ho x hx), h.off, fun x hx a ha => Nat.lt_of_lt_of_le (h.old x hx a ha) he.size, fun x hx => (h.free x hx).eff he (ho x hx) (h.old x hx)⟩
theorem ListAt.below {w w' : World} {v : Value} {its : List It} (h : ListAt w v its) (hb : Below w.heap.size w w') : ListAt w' v its :=
  h.eff (Eff.of_below (S := fun _ => False) hb) (fun _ _ h => h)
theorem ListAt.lt {w : World} {v : Value} {its : List It} (h : ListAt w v its) : ∀ k, ListOwn v its k → k < w.heap.size := fun k hk => by
  rcases hk with hk | ⟨x, hx, a, ha, rfl⟩
  · exact (h.row.lt k hk).2
  · exact h.old x hx a ha
theorem ListAt.nil (w : World) : ListAt w (.slice none 0 0) [] :=
  ⟨World.ownsRow_nil _ _ _ _, (fun x hx => by cases hx), (fun x hx => by cases hx), (fun x hx => by cases hx), fun x hx => by cases hx⟩

theorem append_get {its : List It} {y : It} (i : Nat) (x : It) (hx : (its ++ [y])[i]? = some x) : (its[i]? = some x ∧ i < its.length) ∨ (x = y ∧ i = its.length) := by
  by_cases h : i < its.length
  · rw [List.getElem?_append_left h] at hx
    exact .inl ⟨hx, h⟩
  · rw [List.getElem?_append_right (by omega)] at hx
    have h2 : i - its.length = 0 := by
      rcases Nat.eq_zero_or_pos (i - its.length) with h | h
      · exact h
      · rw [List.getElem?_eq_none (by simp; omega)] at hx; cases hx
    rw [h2] at hx
    simp only [List.getElem?_cons_zero, Option.some.injEq] at hx
    exact .inr ⟨hx.symm, by omega⟩
theorem dist_push {its : List It} {y : It} (hp : Dist its) {B : Nat} (hold : ∀ x ∈ its, ∀ a, x.A = some a → a.block < B) (hy : ∀ a, y.A = some a → B ≤ a.block) : Dist (its ++ [y]) := by
  intro i j x z hx hz hne a c ha hc
  rcases append_get i x hx with ⟨hx', hi⟩ | ⟨rfl, hi⟩ <;> rcases append_get j z hz with ⟨hz', hj⟩ | ⟨rfl, hj⟩
  · exact hp i j x z hx' hz' hne a c ha hc
  · have := hold x (List.mem_of_getElem? hx') a ha
    have := hy c hc
    omega
  · have := hold z (List.mem_of_getElem? hz') c hc
    have := hy a ha
    omega
  · omega

/-- An item more. -/
theorem list_push {w0 w1 w2 : World} {v : Value} {its : List It} {y : It} {g cap : Nat} (hl : ListAt w0 v its) (hb : Below w0.heap.size w0 w1) (hy : y.here w1) (hyf : y.free w1) (hyB : ∀ a, y.A = some a → w0.heap.size ≤ a.block ∧ a.block < w1.heap.size)
    (hrow : w2.ownsRow 0 31 2 (.slice (some ⟨g, 0, none⟩) (its.length + 1) cap) (its ++ [y]).length ((its ++ [y]).flatMap It.cells)) (hg : w1.grownBy w2 v.ownBlock) (hgo : v.ownBlock = some g ∨ w1.heap.size ≤ g) :
    ListAt w2 (.slice (some ⟨g, 0, none⟩) (its.length + 1) cap) (its ++ [y]) ∧ (∀ k, ListOwn (.slice (some ⟨g, 0, none⟩) (its.length + 1) cap) (its ++ [y]) k → ListOwn v its k ∨ w0.heap.size ≤ k) ∧ Eff (fun k => v.ownBlock = some k) w0 w2 := by
  have hl1 := hl.below hb
  have he : Eff (fun k => v.ownBlock = some k) w1 w2 := (Eff.refl _ w1).grown hg (fun k hk _ => hk)
  have hlt := hl.lt
  have hle := hb.size
  have hyo : y.off (fun k => v.ownBlock = some k) := fun a ha h => by have := hlt _ (.inl h); have := (hyB a ha).1; omega
  refine ⟨⟨hrow, fun x hx => ?_, fun x hx a ha h => ?_, fun x hx a ha => ?_, fun x hx => ?_⟩, fun k hk => ?_, (Eff.of_below hb).step he (fun _ _ h => h)⟩
  · rcases List.mem_append.1 hx with hx | hx
    · exact (hl1.here x hx).eff he (hl.off x hx)
    · rw [List.mem_singleton] at hx; subst hx
      exact hy.eff he hyo
  · have e : g = a.block := Option.some.inj h
    rcases List.mem_append.1 hx with hx | hx
    · rcases hgo with h2 | h2
      · exact hl.off x hx a ha (by rw [h2, e])
      · have := hl1.old x hx a ha; omega
    · rw [List.mem_singleton] at hx; subst hx
      have := hyB a ha
      rcases hgo with h2 | h2
      · have := hlt _ (.inl h2); omega
      · omega
  · rcases List.mem_append.1 hx with hx | hx
    · have := hl1.old x hx a ha; have := he.size; omega
    · rw [List.mem_singleton] at hx; subst hx
      have := (hyB a ha).2; have := he.size; omega
  · rcases List.mem_append.1 hx with hx | hx
    · exact (hl1.free x hx).eff he (hl.off x hx) (hl1.old x hx)
    · rw [List.mem_singleton] at hx; subst hx
      exact hyf.eff he hyo (fun a ha => (hyB a ha).2)
  · rcases hk with h | ⟨x, hx, a, ha, rfl⟩
    · have e : g = k := Option.some.inj h
      subst e
      rcases hgo with h2 | h2
      · exact .inl (.inl h2)
      · exact .inr (by omega)
    · rcases List.mem_append.1 hx with hx | hx
      · exact .inl (.inr ⟨x, hx, a, ha, rfl⟩)
      · rw [List.mem_singleton] at hx; subst hx
        exact .inr (hyB a ha).1

theorem wpList_append_item {ops : Array Oper} {rest : List Oper} {o : Oper} {a : Act} {Q : Exit → Act → World → Prop} {w1 w : World} {v : Value} {its : List It} (hgd : o.guard = none) (s x : Operand)
    (ho : o.op = .call { callee := .builtin .append, args := #[s, x], argTypes := #[24, 24] }) (hs : a.eval s = v) (hrow : w1.ownsRow 0 31 2 v its.length (its.flatMap It.cells))
    (y : It) (B : Nat) (hB : w1.heap.size = B) (hx : a.eval x = .slice (some ⟨B, 0, none⟩) 1 1) (hw : w = w1.alloc (.cells y.cells.toArray 31)) (hlen : its.length ≤ 100000)
    (h : ∀ g cap w', w'.ownsRow 0 31 2 (.slice (some ⟨g, 0, none⟩) (its.length + 1) cap) (its ++ [y]).length ((its ++ [y]).flatMap It.cells) → w1.grownBy w' v.ownBlock → (v.ownBlock = some g ∨ w1.heap.size ≤ g) →
      wpList Try.prog ops Q rest (a.put o.dst (.slice (some ⟨g, 0, none⟩) (its.length + 1) cap)) w') : wpList Try.prog ops Q (o :: rest) a w :=
  wpList_plain hgd fun _ hK => wp_append_item s x ho hs hrow y B hB hx hw hlen fun g cap w' h1 h2 h3 => hK _ _ (h g cap w' h1 h2 h3)

def AllRel (W : World) (its : List It) (v i : Value) (wr : World) : Prop :=
  ∃ (k : Nat) (its' : List It), k ≤ its.length ∧ i = .int .i64 k ∧ ListAt wr v its' ∧ its'.map It.data = (its.take k).map It.data ∧ Dist its' ∧ (∀ j, ListOwn v its' j → W.heap.size ≤ j) ∧ Below W.heap.size W wr
attribute [irreducible] AllRel
def GivesAll (w : World) (its : List It) (e : Ending) (w' : World) : Prop :=
  ∃ v its', e = .returned v ∧ ListAt w' v its' ∧ its'.map It.data = its.map It.data ∧ Dist its' ∧ (∀ j, ListOwn v its' j → w.heap.size ≤ j) ∧ Below w.heap.size w w'

set_option maxRecDepth 100000 in
set_option maxHeartbeats 4000000 in
theorem all_any {b : Nat} {v : Value} {its : List It} {lost : Int} (w : World) (hm : MailIs w b v its lost) (hl : its.length ≤ 100000) (hbl : ∀ x ∈ its, x.bs.length ≤ 1000000) :
    Calls Try.prog 16 #[.pointer (some ⟨b, 0, none⟩)] w (GivesAll w its) := by
  have hz := zero_item
  obtain ⟨A0, c0, rfl, _, _, _⟩ := Sl.row hm.row
  have d0 : w.cell? ⟨b, 0, none⟩ = some (.slice A0 its.length c0) := hm.blk.cell 0
  go_enter Try.func16, Try.ntmps16
  go_wp2_with fail
  clear d0
  go_loopw [3, 11] (fun v i wr => AllRel w its v i wr) (fun _ i _ => its.length - (intOf i).toNat)
  case atStart => unfold AllRel; exact ⟨0, [], by omega, rfl, ListAt.nil w, rfl, (fun i j x y hx => by simp at hx), (fun j hj => by rcases hj with hj | ⟨x, hx, _⟩ <;> first | cases hj | cases hx), Below.refl _ _⟩
  case round =>
    unfold AllRel at hrel
    obtain ⟨k, its', hk, rfl, hla, hd, hp, hG, hB⟩ := hrel
    by_cases hlt : k < its.length
    · obtain ⟨x, hx⟩ : ∃ x, its[k]? = some x := ⟨its[k], List.getElem?_eq_getElem hlt⟩
      obtain ⟨g, cap, hA, _, _, x0, x1⟩ := row_item hm.row hx
      simp only [Value.slice.injEq, true_and] at hA
      obtain ⟨rfl, rfl⟩ := hA
      have hgl := hm.lt.2 g rfl
      have y0 : wr.cell? ⟨g, k * 2, none⟩ = some (.int .i64 x.dst) := (hB.cell (p := ⟨g, k * 2, none⟩) hgl).trans x0
      have y1 : wr.cell? ⟨g, k * 2 + 1, none⟩ = some (.slice x.A x.bs.length x.c) := (hB.cell (p := ⟨g, k * 2 + 1, none⟩) hgl).trans x1
      have hxm := List.mem_of_getElem? hx
      have hxh := It.here.below (hm.here x hxm) hB
      have hxl := hbl x hxm
      have hkl : its'.length = k := by rw [map_length hd, List.length_map, List.length_take, Nat.min_eq_left hk]
      obtain ⟨A1, k1, rfl, _, _, _⟩ := Sl.row hla.row
      have HX := hid (And.intro hx (And.intro hxh (And.intro hxl (And.intro hd hkl))))
      clear hx x0 x1 hxh hxl hd hkl
      go_wp2_with fail
      obtain ⟨w3, hw3⟩ : ∃ w3, w3 = wr.alloc (.cells #[.int .i64 x.dst, .slice x.A x.bs.length x.c] 31) := ⟨_, rfl⟩
      have hb3 : Below wr.heap.size wr w3 := by rw [hw3]; exact (Below.refl _ _).alloc (Nat.le_refl _) _
      rw [← hw3]
      clear hw3 y0 y1
      refine (own_any x w3 (It.here.below HX.out.2.1 hb3) HX.out.2.2.1).mono ?_
      rintro e w4 ⟨A2, c2, rfl, hy, hyB, hyf, hb4⟩
      have hb34 := hb3.trans (hb4.mono hb3.size)
      have HY := hid (And.intro hla (And.intro hb34 (And.intro hy (And.intro hyf (And.intro hyB (And.intro hb3.size hp))))))
      have HL : Hid (its'.length ≤ 100000) := by rw [Hid, HX.out.2.2.2.2]; omega
      clear hy hyf hyB hb34 hb4 hla hp hb3
      go_wp2_with (at_builtin; refine wpList_append_item rfl _ _ rfl rfl (HY.out.1.below HY.out.2.1).row (⟨x.dst, A2, c2, x.bs⟩ : It) w4.heap.size rfl rfl rfl HL.out ?_; intro g2 cap2 w5 hrow5 hgr5 hgo5)
      refine ⟨?_, by simp [intOf]; omega⟩
      obtain ⟨hl5, ho5, he5⟩ := list_push HY.out.1 HY.out.2.1 HY.out.2.2.1 HY.out.2.2.2.1 (fun a ha => ⟨Nat.le_trans HY.out.2.2.2.2.2.1 (HY.out.2.2.2.2.1 a ha).1, (HY.out.2.2.2.2.1 a ha).2⟩) hrow5 hgr5 hgo5
      unfold AllRel
      refine ⟨k + 1, _, by omega, by go_num, hl5, ?_, dist_push HY.out.2.2.2.2.2.2 HY.out.1.old (fun a ha => Nat.le_trans HY.out.2.2.2.2.2.1 (HY.out.2.2.2.2.1 a ha).1), fun j hj => ?_, hB.trans (he5.below (Below.refl _ _) hB.size (fun i hi h => by have := hG i (.inl h); omega))⟩
      · rw [List.map_append, HX.out.2.2.2.1, List.take_succ_eq_append_getElem hlt, List.map_append]
        have : its[k] = x := by
          have := HX.out.1
          rw [List.getElem?_eq_getElem hlt] at this
          exact Option.some.inj this
        rw [this]
        rfl
      · rcases ho5 j hj with h | h
        · exact hG j h
        · exact Nat.le_trans hB.size h
    · have hke : k = its.length := by omega
      have HK : Hid (its'.map It.data = its.map It.data) := by rw [Hid, hd, hke, List.take_length]
      clear hke hd
      obtain ⟨A1, k1, rfl, _, _, _⟩ := Sl.row hla.row
      go_wp2_with fail
      go_ret
      exact ⟨_, its', rfl, hla, HK.out, hp, hG, hB⟩

/-- All that wait, as the statements use them. -/
def ListL (w : World) (v : Value) (F : Nat → Prop) (D : List (Int × List Int)) : Prop := ∃ its, ListAt w v its ∧ its.map It.data = D ∧ Dist its ∧ ∀ k, ListOwn v its k ↔ F k
theorem ListL.eff {S : Nat → Prop} {w w' : World} {v : Value} {F : Nat → Prop} {D : List (Int × List Int)} (h : ListL w v F D) (he : Eff S w w') (hS : ∀ k, F k → ¬ S k) : ListL w' v F D := by
  obtain ⟨its, h1, h2, h3, h4⟩ := h
  exact ⟨its, h1.eff he (fun k hk => hS k ((h4 k).1 hk)), h2, h3, h4⟩
theorem ListL.below {w w' : World} {v : Value} {F : Nat → Prop} {D : List (Int × List Int)} (h : ListL w v F D) (hb : Below w.heap.size w w') : ListL w' v F D :=
  h.eff (Eff.of_below (S := fun _ => False) hb) (fun _ _ h => h)
theorem ListL.lt {w : World} {v : Value} {F : Nat → Prop} {D : List (Int × List Int)} (h : ListL w v F D) : ∀ k, F k → k < w.heap.size := by
  obtain ⟨its, h1, _, _, h4⟩ := h
  exact fun k hk => h1.lt k ((h4 k).2 hk)
/-- An item of it, in memory. -/
theorem ListL.item {w : World} {v : Value} {F : Nat → Prop} {D : List (Int × List Int)} (h : ListL w v F D) {k : Nat} {p : Int × List Int} (hp : D[k]? = some p) :
    ∃ g cap A c, v = .slice (some ⟨g, 0, none⟩) D.length cap ∧ D.length ≤ cap ∧ cap ≤ maxLen ∧ w.cell? ⟨g, k * 2, none⟩ = some (.int .i64 p.1) ∧ w.cell? ⟨g, k * 2 + 1, none⟩ = some (.slice A p.2.length c) ∧ Sl w A (p.2.map (Value.int .u8)) := by
  obtain ⟨its, h1, h2, _, _⟩ := h
  obtain ⟨x, hx, rfl⟩ := map_get h2 hp
  obtain ⟨g, cap, hv, hc, hm, x0, x1⟩ := row_item h1.row hx
  rw [map_length h2] at hv hc
  exact ⟨g, cap, x.A, x.c, hv, hc, hm, x0, x1, h1.here x (List.mem_of_getElem? hx)⟩
theorem ListL.form {w : World} {v : Value} {F : Nat → Prop} {D : List (Int × List Int)} (h : ListL w v F D) : ∃ A c, v = .slice A D.length c := by
  obtain ⟨its, h1, h2, _, _⟩ := h
  obtain ⟨A, c, hv, _⟩ := Sl.row h1.row
  rw [map_length h2] at hv
  exact ⟨A, c, hv⟩

def AllL (w : World) (D : List (Int × List Int)) (e : Ending) (w' : World) : Prop := ∃ v F, e = .returned v ∧ ListL w' v F D ∧ (∀ j, F j → w.heap.size ≤ j) ∧ Below w.heap.size w w'
theorem allL {b : Nat} {F : Nat → Prop} {D : List (Int × List Int)} {lost : Int} (w : World) (hm : MailL w b F D lost) (hl : D.length ≤ 100000) (hbl : ∀ p ∈ D, p.2.length ≤ 1000000) :
    Calls Try.prog 16 #[.pointer (some ⟨b, 0, none⟩)] w (AllL w D) := by
  obtain ⟨v, its, hm, hd, hp, hF⟩ := hm
  refine (all_any w hm (by rw [map_length hd]; exact hl) (fun x hx => hbl x.data (by rw [← hd]; exact List.mem_map_of_mem hx))).mono ?_
  rintro e w' ⟨v', its', rfl, hl', hd', hp', hG, hB⟩
  exact ⟨v', ListOwn v' its', rfl, ⟨its', hl', by rw [hd', hd], hp', fun k => Iff.rfl⟩, hG, hB⟩

def CloneL (w : World) (D : List (Int × List Int)) (lost : Int) (e : Ending) (w' : World) : Prop := ∃ b F, e = .returned (.pointer (some ⟨b, 0, none⟩)) ∧ MailL w' b F D lost ∧ (∀ j, F j → w.heap.size ≤ j) ∧ Below w.heap.size w w'
theorem clone_done {w w1 : World} {v : Value} {F : Nat → Prop} {D : List (Int × List Int)} {lost : Int} (hl : ListL w1 v F D) (hG : ∀ j, F j → w.drew.heap.size ≤ j) (hb : Below w.drew.heap.size w.drew w1) :
    CloneL w D lost (.returned (.pointer (some ⟨w1.heap.size, 0, none⟩))) (w1.alloc (.cells #[v, .int .i64 lost] 26)) := by
  obtain ⟨its, h1, h2, h3, h4⟩ := hl
  have hb2 : Below w1.heap.size w1 (w1.alloc (.cells #[v, .int .i64 lost] 26)) := (Below.refl _ _).alloc (Nat.le_refl _) _
  have hlt := h1.lt
  have h5 := h1.below hb2
  have hB : Below w.heap.size w w1 := (Below.refl _ _).drew.trans hb
  refine ⟨w1.heap.size, Foot w1.heap.size v its, rfl, ⟨v, its, ⟨Blk.new w1 [v, .int .i64 lost] _, h5.row, fun e => by have := hlt _ (.inl e); omega, h5.here, fun x hx a ha h => ?_, h5.old, h5.free⟩, h2, h3, fun k => Iff.rfl⟩, fun j hj => ?_, hB.alloc hB.size _⟩
  · rcases h with h | h
    · have := h1.old x hx a ha; omega
    · exact h1.off x hx a ha h
  · rcases hj with rfl | h | h
    · exact hB.size
    · exact hG j ((h4 j).1 (.inl h))
    · exact hG j ((h4 j).1 (.inr h))
set_option maxRecDepth 100000 in
set_option maxHeartbeats 4000000 in
theorem cloneL {b : Nat} {F : Nat → Prop} {D : List (Int × List Int)} {lost : Int} (w : World) (hm : MailL w b F D lost) (hl : D.length ≤ 100000) (hbl : ∀ p ∈ D, p.2.length ≤ 1000000) :
    Calls Try.prog 17 #[.pointer (some ⟨b, 0, none⟩)] w (CloneL w D lost) := by
  have hlt : b < w.drew.heap.size := hm.lt b hm.own
  have c1 : w.drew.cell? ⟨b, 1, none⟩ = some (.int .i64 lost) := by
    obtain ⟨v, its, h, _⟩ := hm
    exact h.blk.cell 1
  have HA := hid (allL w.drew hm.drew hl hbl)
  clear hm
  go_enter Try.func17, Try.ntmps17
  go_wp2_with fail
  refine wp_region_any (by kernel_rfl) ?_
  change wpAny _ _ _ _ _ _ _ (World.drew _)
  refine any_take 0 ?_ rfl (by kernel_rfl) (by kernel_rfl) (by kernel_rfl) (fun _ _ _ h => h) (by rfl) ?_ ?_
  rotate_left
  · (intro w; go_simp; try with_reducible rfl)
  try simp only [Act.put, List.setIfInBounds_toArray, List.set_cons_zero, List.set_cons_succ]
  refine any_take 2 ?_ rfl (by kernel_rfl) (by kernel_rfl) (by kernel_rfl) (fun _ _ _ h => h) (by rfl) ?_ ?_
  rotate_left
  · (intro w; go_simp; try with_reducible rfl)
  try simp only [Act.put, List.setIfInBounds_toArray, List.set_cons_zero, List.set_cons_succ]
  refine any_take 3 ?_ rfl (by kernel_rfl) (by kernel_rfl) (by kernel_rfl) (fun _ _ _ h => h) (by rfl) ?_ ?_
  rotate_left
  · (intro w; go_simp; try with_reducible rfl)
  try simp only [Act.put, List.setIfInBounds_toArray, List.set_cons_zero, List.set_cons_succ]
  refine any_take 4 ?_ rfl (by kernel_rfl) (by kernel_rfl) (by kernel_rfl) (fun _ _ _ h => h) (by rfl) ?_ ?_
  rotate_left
  · (intro w; go_simp; try with_reducible rfl)
  try simp only [Act.put, List.setIfInBounds_toArray, List.set_cons_zero, List.set_cons_succ]
  refine any_two 1 5 rfl rfl (by kernel_rfl) (by rfl) (by rfl) ?_ ?_
  · intro K hK
    go_simp
    refine HA.out.mono ?_
    rintro e w1 ⟨v, F1, rfl, hl1, hG1, hb1⟩
    have c2 : w1.cell? ⟨b, 1, none⟩ = some (.int .i64 lost) := (hb1.cell (p := ⟨b, 1, none⟩) hlt).trans c1
    obtain ⟨A1, k1, rfl⟩ := hl1.form
    have HL := hid (And.intro hl1 (And.intro hG1 hb1))
    clear hl1 hG1 hb1
    refine hK _ _ ?_
    clear hK K
    try simp only [Act.put, List.setIfInBounds_toArray, List.set_cons_zero, List.set_cons_succ]
    refine any_one 5 rfl (by kernel_rfl) (by rfl) ?_
    intro K hK
    go_simp
    refine hK _ _ ?_
    clear hK K
    try simp only [Act.put, List.setIfInBounds_toArray, List.set_cons_zero, List.set_cons_succ]
    refine any_take 6 ?_ rfl (by kernel_rfl) (by kernel_rfl) (by kernel_rfl) (fun _ _ _ h => h) (by rfl) ?_ ?_
    rotate_left
    · (intro w; go_simp; try with_reducible rfl)
    try simp only [Act.put, List.setIfInBounds_toArray, List.set_cons_zero, List.set_cons_succ]
    refine any_one 7 rfl (by kernel_rfl) (by rfl) ?_
    intro K hK
    go_simp
    refine hK _ _ ?_
    clear hK K
    try simp only [Act.put, List.setIfInBounds_toArray, List.set_cons_zero, List.set_cons_succ]
    refine any_take 8 ?_ rfl (by kernel_rfl) (by kernel_rfl) (by kernel_rfl) (fun _ _ _ h => h) (by rfl) ?_ ?_
    rotate_left
    · (intro w; go_simp; try with_reducible rfl)
    try simp only [Act.put, List.setIfInBounds_toArray, List.set_cons_zero, List.set_cons_succ]
    refine wpAny_done (by kernel_rfl) ?_ _
    go_wp2_with fail
    go_ret
    exact clone_done HL.out.1 HL.out.2.1 HL.out.2.2
  · intro K hK
    go_simp
    refine hK _ _ ?_
    clear hK K
    try simp only [Act.put, List.setIfInBounds_toArray, List.set_cons_zero, List.set_cons_succ]
    refine any_one 1 rfl (by kernel_rfl) (by rfl) ?_
    intro K hK
    go_simp
    refine HA.out.mono ?_
    rintro e w1 ⟨v, F1, rfl, hl1, hG1, hb1⟩
    have c2 : w1.cell? ⟨b, 1, none⟩ = some (.int .i64 lost) := (hb1.cell (p := ⟨b, 1, none⟩) hlt).trans c1
    obtain ⟨A1, k1, rfl⟩ := hl1.form
    have HL := hid (And.intro hl1 (And.intro hG1 hb1))
    clear hl1 hG1 hb1
    refine hK _ _ ?_
    clear hK K
    try simp only [Act.put, List.setIfInBounds_toArray, List.set_cons_zero, List.set_cons_succ]
    refine any_take 6 ?_ rfl (by kernel_rfl) (by kernel_rfl) (by kernel_rfl) (fun _ _ _ h => h) (by rfl) ?_ ?_
    rotate_left
    · (intro w; go_simp; try with_reducible rfl)
    try simp only [Act.put, List.setIfInBounds_toArray, List.set_cons_zero, List.set_cons_succ]
    refine any_one 7 rfl (by kernel_rfl) (by rfl) ?_
    intro K hK
    go_simp
    refine hK _ _ ?_
    clear hK K
    try simp only [Act.put, List.setIfInBounds_toArray, List.set_cons_zero, List.set_cons_succ]
    refine any_take 8 ?_ rfl (by kernel_rfl) (by kernel_rfl) (by kernel_rfl) (fun _ _ _ h => h) (by rfl) ?_ ?_
    rotate_left
    · (intro w; go_simp; try with_reducible rfl)
    try simp only [Act.put, List.setIfInBounds_toArray, List.set_cons_zero, List.set_cons_succ]
    refine wpAny_done (by kernel_rfl) ?_ _
    go_wp2_with fail
    go_ret
    exact clone_done HL.out.1 HL.out.2.1 HL.out.2.2
end Go.Proofs.Ytnhfnklbeifbhaa
