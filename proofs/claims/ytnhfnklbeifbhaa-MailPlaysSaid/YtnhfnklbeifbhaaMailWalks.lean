/- Frames on their way: what each function does. -/
import Derived.Test.YtnhfnklbeifbhaaMailPure
import Derived.Test.YtnhfnklbeifbhaaCellMake
import Derived.Test.YtnhfnklbeifbhaaRegions
import Derived.Deep.AppendLies
namespace Go.Proofs.Ytnhfnklbeifbhaa
open Go.RowKit
set_option linter.unusedSimpArgs false

theorem zero_item (w : World) : (zeroValue 31).run Try.prog w = .ok (.agg #[.int .i64 0, .slice none 0 0]) w := by kernel_rfl
theorem item_info : (Try.prog.info? 31).map (·.size) = some 2 := by kernel_rfl
theorem rowItems : RowT Try.prog 24 31 (.agg #[.int .i64 0, .slice none 0 0]) 2 32 := ⟨Try.underlying24, by kernel_rfl, rfl, by decide⟩
/-- A struct result that lies in a block. -/
theorem ret_blk {P : Program} {fn : Func} {R : Ending → World → Prop} {a : Act} {w : World} {p : Tmp} {ty : TypeId} (h : fn.results = #[.cell p ty]) (g : Nat) (cs : List Value) (E : TypeId) (d : TypeDesc)
    (hp : a.tmps.getD p undef = .pointer (some ⟨g, 0, none⟩)) (hb : Blk w g cs E) (hu : P.underlying ty = some d) (hd : isAggDesc d = true) (hi : (P.info? ty).map (·.size) = some cs.length) (hdf : a.defers = [])
    (hR : R (.returned (.agg cs.toArray)) w) : bodyPost P fn R .ret a w :=
  bodyPost_ret (results_cell_row h a.tmps w g E cs.toArray (0, 0) d hp hb hu (by cases d <;> simp_all [isAggDesc]) (by simpa using hi)) hdf hR
abbrev MailIs (w : World) (b : Nat) (v : Value) (its : List It) (lost : Int) : Prop := MailAt 26 31 w b v its lost

/-- A copy of an item, its bytes in a block of its own. -/
def GivesOwn (w : World) (dst : Int) (bs : List Int) (e : Ending) (w' : World) : Prop :=
  ∃ (A : Option Addr) (c : Nat), e = .returned (.agg #[.int .i64 dst, .slice A bs.length c]) ∧ It.here w' ⟨dst, A, c, bs⟩ ∧ (∀ a, A = some a → w.heap.size ≤ a.block ∧ a.block < w'.heap.size) ∧ It.free w' ⟨dst, A, c, bs⟩ ∧ Below w.heap.size w w'

set_option maxHeartbeats 1600000 in
theorem own_any (x : It) (w : World) (hx : x.here w) (hl : x.bs.length ≤ 1000000) : Calls Try.prog 22 #[x.val] w (GivesOwn w x.dst x.bs) := by
  obtain ⟨dst, A, c, bs⟩ := x
  have hz := zero_item
  simp only [It.val, It.here] at *
  go_enter Try.func22, Try.ntmps22
  go_wp2_with fail
  obtain ⟨w0, hw0⟩ : ∃ w0, w0 = (w.alloc (.cells #[.int .i64 dst, .slice A bs.length c] 31)).alloc (.cells #[.int .i64 0, .slice none 0 0] 31) := ⟨_, rfl⟩
  have hF0 : Blk w0 w.heap.size [.int .i64 dst, .slice A bs.length c] 31 := by rw [hw0]; exact (Blk.new w _ _).alloc _
  have hG0 : Blk w0 (w.heap.size + 1) [.int .i64 0, .slice none 0 0] 31 := by
    rw [hw0, show w.heap.size + 1 = (w.alloc (.cells #[.int .i64 dst, .slice A bs.length c] 31)).heap.size from by simp]
    exact Blk.new _ _ _
  have hB0 : Below w.heap.size w w0 := by rw [hw0]; exact ((Below.refl _ _).alloc (Nat.le_refl _) _).alloc (by simp) _
  have hs0 : Sl w0 A (bs.map (Value.int .u8)) := It.here.below (x := ⟨dst, A, c, bs⟩) hx hB0
  rw [← hw0]
  clear hw0 hx
  have hs0' : Sl w0.drew A (bs.map (Value.int .u8)) := hs0
  have hF0' := hF0.drew
  have hG0' := hG0.drew
  have hB0' := hB0.drew
  have c0 : w0.drew.cell? ⟨w.heap.size, 0, none⟩ = some (.int .i64 dst) := hF0.cell 0
  have c1 : w0.drew.cell? ⟨w.heap.size, 1, none⟩ = some (.slice A bs.length c) := hF0.cell 1
  clear hF0 hG0 hB0 hs0
  refine wp_region_held_drew (S := fun w' => w'.cell? ⟨w.heap.size, 0, none⟩ = some (.int .i64 dst) ∧ w'.cell? ⟨w.heap.size, 1, none⟩ = some (.slice A bs.length c)) (by kernel_rfl) ?_ (fun hHeld => ?_)
  · (try dsimp only); (first | exact ⟨c0, c1⟩ | exact ⟨d0, d1⟩ | exact ⟨hF2.cell 0, hF2.cell 1⟩)
  refine held_take 0 ?_ rfl (by kernel_rfl) (by kernel_rfl) (by kernel_rfl) (fun _ _ _ h => h) (by rfl) ?_ hHeld ?_
  rotate_left
  · (intro w hSw; (try dsimp only at hSw); go_simp; try with_reducible rfl)
  try simp only [Act.put, List.setIfInBounds_toArray, List.set_cons_zero, List.set_cons_succ]
  refine held_take 1 ?_ rfl (by kernel_rfl) (by kernel_rfl) (by kernel_rfl) (fun _ _ _ h => h) (by rfl) ?_ hHeld ?_
  rotate_left
  · (intro w hSw; (try dsimp only at hSw); go_simp; try with_reducible rfl)
  try simp only [Act.put, List.setIfInBounds_toArray, List.set_cons_zero, List.set_cons_succ]
  refine held_take 2 ?_ rfl (by kernel_rfl) (by kernel_rfl) (by kernel_rfl) (fun _ _ _ h => h) (by rfl) ?_ hHeld ?_
  rotate_left
  · (intro w hSw; (try dsimp only at hSw); go_simp; try with_reducible rfl)
  try simp only [Act.put, List.setIfInBounds_toArray, List.set_cons_zero, List.set_cons_succ]
  refine held_take 3 ?_ rfl (by kernel_rfl) (by kernel_rfl) (by kernel_rfl) (fun _ _ _ h => h) (by rfl) ?_ hHeld ?_
  rotate_left
  · (intro w hSw; (try dsimp only at hSw); go_simp; try with_reducible rfl)
  try simp only [Act.put, List.setIfInBounds_toArray, List.set_cons_zero, List.set_cons_succ]
  refine held_one 4 rfl (by kernel_rfl) (by rfl) (fun K hK => ?_)
  go_simp
  refine (clone_bytes _ _ _ _ hs0' hl).mono ?_
  rintro e w1 ⟨v, rfl, hown, hb1⟩
  obtain ⟨A1, k1, rfl, _, _, hs1⟩ := Sl.row hown
  have hF1 := (Eff.of_below (S := fun _ => False) hb1).blk hF0' (fun h => h)
  have hG1 := (Eff.of_below (S := fun _ => False) hb1).blk hG0' (fun h => h)
  have hB1 := hB0'.trans (hb1.mono hB0'.size)
  have d0 : w1.cell? ⟨w.heap.size, 0, none⟩ = some (.int .i64 dst) := hF1.cell 0
  have d1 : w1.cell? ⟨w.heap.size, 1, none⟩ = some (.slice A bs.length c) := hF1.cell 1
  have g0 : w1.cell? ⟨w.heap.size + 1, 0, none⟩ = some (.int .i64 0) := hG1.cell 0
  have g1 : w1.cell? ⟨w.heap.size + 1, 1, none⟩ = some (.slice none 0 0) := hG1.cell 1
  have gf : ∀ o, w1.frozen? ⟨w.heap.size + 1, o, none⟩ = false := hG1.frozen
  refine hK.out _ _ ?_ (fun hHeld2 => ?_)
  · (try dsimp only); (first | exact ⟨c0, c1⟩ | exact ⟨d0, d1⟩ | exact ⟨hF2.cell 0, hF2.cell 1⟩)
  clear hK K hHeld
  have hHeld := hHeld2
  clear hHeld2
  try simp only [Act.put, List.setIfInBounds_toArray, List.set_cons_zero, List.set_cons_succ]
  refine held_take 5 ?_ rfl (by kernel_rfl) (by kernel_rfl) (by kernel_rfl) (fun _ _ _ h => h) (by rfl) ?_ hHeld ?_
  rotate_left
  · (intro w hSw; (try dsimp only at hSw); go_simp; try with_reducible rfl)
  try simp only [Act.put, List.setIfInBounds_toArray, List.set_cons_zero, List.set_cons_succ]
  refine held_one 6 rfl (by kernel_rfl) (by rfl) (fun K hK => ?_)
  go_simp
  have hF2 := (hF1.set_ne (b' := w.heap.size + 1) (by omega) 0 none (.int .i64 dst)).set_ne (b' := w.heap.size + 1) (by omega) 1 none (.slice A1 bs.length k1)
  have hG2 := (hG1.set 0 (.int .i64 dst)).set 1 (.slice A1 bs.length k1)
  have hB2 := (hB1.setCell (p := ⟨w.heap.size + 1, 0, none⟩) (by simp) (.int .i64 dst)).setCell (p := ⟨w.heap.size + 1, 1, none⟩) (by simp) (.slice A1 bs.length k1)
  refine hK.out _ _ ?_ (fun hHeld2 => ?_)
  · (try dsimp only); (first | exact ⟨c0, c1⟩ | exact ⟨d0, d1⟩ | exact ⟨hF2.cell 0, hF2.cell 1⟩)
  clear hK K hHeld
  have hHeld := hHeld2
  clear hHeld2
  try simp only [Act.put, List.setIfInBounds_toArray, List.set_cons_zero, List.set_cons_succ]
  refine wpAnyH_done (by kernel_rfl) ?_ _
  clear hHeld
  go_wp2_with fail
  have hlo : ∀ a, A1 = some a → w0.drew.heap.size ≤ a.block ∧ a.block < w1.heap.size := fun a ha => hown.lt a.block (by rw [ha]; rfl)
  have hz0 := hB0'.size
  have hz1 := hG0'.lt
  have hs2 : Sl ((w1.setCell ⟨w.heap.size + 1, 0, none⟩ (.int .i64 dst)).setCell ⟨w.heap.size + 1, 1, none⟩ (.slice A1 bs.length k1)) A1 (bs.map (Value.int .u8)) :=
    hs1.eff (((Eff.one (w.heap.size + 1) w1).set 0 _).set 1 _) (fun a ha h => by have := (hlo a ha).1; omega)
  have hfr : It.free ((w1.setCell ⟨w.heap.size + 1, 0, none⟩ (.int .i64 dst)).setCell ⟨w.heap.size + 1, 1, none⟩ (.slice A1 bs.length k1)) ⟨dst, A1, k1, bs⟩ := by
    refine It.free.eff (w := w1) (S := (· = w.heap.size + 1)) ?_ (((Eff.one (w.heap.size + 1) w1).set 0 _).set 1 _) (fun a ha h => by have := (hlo a ha).1; omega) (fun a ha => (hlo a ha).2)
    intro a ha o
    have ha : A1 = some a := ha
    subst ha
    rcases hown.2 with ⟨h, _⟩ | ⟨g', cap', cur, h', _, hg, _⟩
    · simp at h
    · have e : a = ⟨g', 0, none⟩ := by injection h' with h'; exact Option.some.inj h'
      subst e
      exact frozen_of_row w1 g' o cur _ hg
  refine ret_blk Try.results22 (w.heap.size + 1) [.int .i64 dst, .slice A1 bs.length k1] 31 _ (by rfl) hG2 Try.underlying31 rfl item_info (by rfl) ?_
  exact ⟨A1, k1, rfl, hs2, fun a ha => ⟨Nat.le_trans hz0 (hlo a ha).1, by have := (hlo a ha).2; simpa using this⟩, hfr, hB2⟩

set_option maxHeartbeats 800000 in
theorem is_any {b : Nat} {v : Value} {its : List It} {lost : Int} (i : Int) (w : World) (hm : MailIs w b v its lost) :
    Calls Try.prog 23 #[.pointer (some ⟨b, 0, none⟩), .int .i64 i] w fun e w' => e = .returned (.bool (decide (0 ≤ i) && decide (i < its.length))) ∧ w = w' := by
  obtain ⟨A, c, rfl, _, _, _⟩ := Sl.row hm.row
  have c0 : w.cell? ⟨b, 0, none⟩ = some (.slice A its.length c) := hm.blk.cell 0
  clear hm
  by_cases h : 0 ≤ i
  · have h' : decide (0 ≤ i) = true := by simpa using h
    rw [h']
    clear h'
    go_enter Try.func23, Try.ntmps23
    go_wp2
    go_ret
    exact ⟨rfl, rfl⟩
  · have h' : decide (0 ≤ i) = false := by simpa using h
    rw [h']
    clear h'
    go_enter Try.func23, Try.ntmps23
    go_wp2
    go_ret
    exact ⟨rfl, rfl⟩
theorem len_any {b : Nat} {v : Value} {its : List It} {lost : Int} (w : World) (hm : MailIs w b v its lost) :
    Calls Try.prog 12 #[.pointer (some ⟨b, 0, none⟩)] w fun e w' => e = .returned (.int .i64 its.length) ∧ w = w' := by
  obtain ⟨A, c, rfl, _, _, _⟩ := Sl.row hm.row
  have c0 : w.cell? ⟨b, 0, none⟩ = some (.slice A its.length c) := hm.blk.cell 0
  clear hm
  go_enter Try.func12, Try.ntmps12
  go_wp2
  go_ret
  exact ⟨rfl, rfl⟩
theorem lost_any {b : Nat} {v : Value} {its : List It} {lost : Int} (w : World) (hm : MailIs w b v its lost) :
    Calls Try.prog 14 #[.pointer (some ⟨b, 0, none⟩)] w fun e w' => e = .returned (.int .i64 lost) ∧ w = w' := by
  have c1 : w.cell? ⟨b, 1, none⟩ = some (.int .i64 lost) := hm.blk.cell 1
  clear hm
  go_enter Try.func14, Try.ntmps14
  go_wp2
  go_ret
  exact ⟨rfl, rfl⟩

/-- Put where there is no room. -/
theorem putFull_any {b : Nat} {v : Value} {its : List It} {lost : Int} (dst : Int) (A : Option Addr) (n c : Nat) (w : World) (hm : MailIs w b v its lost) (hl : 4096 ≤ its.length) (hlost : 0 ≤ lost ∧ lost < 9223372036854775807) :
    Calls Try.prog 9 #[.pointer (some ⟨b, 0, none⟩), .int .i64 dst, .slice A n c] w fun e w' => e = .returned (.bool false) ∧ MailIs w' b v its (lost + 1) ∧ Eff (· = b) w w' := by
  obtain ⟨A0, c0, rfl, _, _, _⟩ := Sl.row hm.row
  obtain ⟨hlo, hhi⟩ := hlost
  have d0 : w.cell? ⟨b, 0, none⟩ = some (.slice A0 its.length c0) := hm.blk.cell 0
  have d1 : w.cell? ⟨b, 1, none⟩ = some (.int .i64 lost) := hm.blk.cell 1
  have hf : w.frozen? ⟨b, 1, none⟩ = false := hm.blk.frozen 1
  have hg : 4096 ≤ (its.length : Int) := by omega
  have he : Eff (· = b) w (w.setCell ⟨b, 1, none⟩ (.int .i64 (lost + 1))) := (Eff.one b w).set 1 _
  have HM : Hid (MailIs (w.setCell ⟨b, 1, none⟩ (.int .i64 (lost + 1))) b (.slice A0 its.length c0) its (lost + 1)) :=
    ⟨hm.blk.set 1 _, he.row hm.row (fun k hk h => hm.nb (by rw [hk, h])), hm.nb, fun x hx => (hm.here x hx).eff he (fun a ha h => hm.off x hx a ha (.inl h)), hm.off, fun x hx a ha => Nat.lt_of_lt_of_le (hm.old x hx a ha) he.size, fun x hx => (hm.free x hx).eff he (fun a ha h => hm.off x hx a ha (.inl h)) (hm.old x hx)⟩
  clear hm hl
  go_enter Try.func9, Try.ntmps9
  go_wp2
  go_ret
  exact ⟨rfl, HM.out, he⟩

/-- An item more, laid in a block just ahead of it. -/
theorem wp_append_item {o : Oper} {a : Act} {K : Act → World → Prop} {Q : Exit → Act → World → Prop} {w1 w : World} {v : Value} {its : List It} (s x : Operand)
    (ho : o.op = .call { callee := .builtin .append, args := #[s, x], argTypes := #[24, 24] }) (hs : a.eval s = v) (hrow : w1.ownsRow 0 31 2 v its.length (its.flatMap It.cells))
    (y : It) (B : Nat) (hB : w1.heap.size = B) (hx : a.eval x = .slice (some ⟨B, 0, none⟩) 1 1) (hw : w = w1.alloc (.cells y.cells.toArray 31)) (hlen : its.length ≤ 100000)
    (h : ∀ g cap w', w'.ownsRow 0 31 2 (.slice (some ⟨g, 0, none⟩) (its.length + 1) cap) (its ++ [y]).length ((its ++ [y]).flatMap It.cells) → w1.grownBy w' v.ownBlock → (v.ownBlock = some g ∨ w1.heap.size ≤ g) →
      K (a.put o.dst (.slice (some ⟨g, 0, none⟩) (its.length + 1) cap)) w') : o.wp Try.prog a w K Q := by
  obtain ⟨ti, hi, hz, hsz, hby⟩ := info_parts rowItems.info
  subst hw hB
  refine wp_append_lies _ s x 24 ho 0 31 ti _ 2 32 rowItems.und hi hz hsz hby rfl (by decide) v its.length _ hs (hrow.alloc _) ⟨w1.heap.size, 0, none⟩ 1 1 y.cells hx rfl ?_ ?_ (by decide) (by unfold maxLen; omega) (by omega) (Nat.zero_le _) _ rfl ?_
  · intro j u hu
    have e1 : (⟨w1.heap.size, 0, none⟩ : Addr).add j = ⟨w1.heap.size, j, none⟩ := by unfold Addr.add; split <;> simp_all
    rw [e1, (Blk.new w1 y.cells 31).cell, hu]
  · exact List.all_eq_true.1 (by rfl)
  · intro g cap w' ho' hg hgo _
    have hgr : w1.grownBy w' v.ownBlock := ⟨hg.os, hg.tape, hg.output, Nat.le_trans (by simp) hg.size, fun k hk hn => (hg.block k (Nat.lt_of_lt_of_le hk (by simp)) hn).trans (Below.heap_alloc _ _ _ hk)⟩
    refine h g cap w' ?_ hgr (hgo.imp_right fun e => by rw [e]; simp)
    simpa using ho'

/-- Put where there is room: the frame stands at the end, its bytes are its own. -/
def GivesPut (w : World) (b : Nat) (v : Value) (its : List It) (lost dst : Int) (bs : List Int) (e : Ending) (w' : World) : Prop :=
  ∃ (A : Option Addr) (c : Nat) (v' : Value), e = .returned (.bool true) ∧ MailIs w' b v' (its ++ [⟨dst, A, c, bs⟩]) lost ∧ (∀ a, A = some a → w.heap.size ≤ a.block) ∧
    (∀ k, v'.ownBlock = some k → v.ownBlock = some k ∨ w.heap.size ≤ k) ∧ Eff (MailOwn b v) w w'

theorem GivesPut.undrew {w w' : World} {b : Nat} {v : Value} {its : List It} {lost dst : Int} {bs : List Int} {e : Ending} (h : GivesPut w.drew b v its lost dst bs e w') : GivesPut w b v its lost dst bs e w' := by
  obtain ⟨A, c, v', he, hm, h1, h2, h3⟩ := h
  exact ⟨A, c, v', he, hm, h1, h2, ⟨h3.os, h3.tape, h3.output, h3.size, h3.block⟩⟩
/-- Behind the append and the store. -/
theorem put_done {w w1 w2 : World} {b g cap : Nat} {v : Value} {its : List It} {lost dst : Int} {A : Option Addr} {c : Nat} {bs : List Int} (hm : MailIs w b v its lost) (hb1 : Below w.heap.size w w1) (hy : It.here w1 ⟨dst, A, c, bs⟩)
    (hyB : ∀ a, A = some a → w.heap.size ≤ a.block ∧ a.block < w1.heap.size) (hyf : It.free w1 ⟨dst, A, c, bs⟩)
    (hrow : w2.ownsRow 0 31 2 (.slice (some ⟨g, 0, none⟩) (its.length + 1) cap) (its ++ [(⟨dst, A, c, bs⟩ : It)]).length ((its ++ [(⟨dst, A, c, bs⟩ : It)]).flatMap It.cells)) (hg : w1.grownBy w2 v.ownBlock) (hgo : v.ownBlock = some g ∨ w1.heap.size ≤ g) :
    GivesPut w b v its lost dst bs (.returned (.bool true)) (w2.setCell ⟨b, 0, none⟩ (.slice (some ⟨g, 0, none⟩) (its.length + 1) cap)) := by
  have hlt := hm.lt
  have hgb : g ≠ b := by
    rcases hgo with h | h
    · exact fun e => hm.nb (by rw [h, e])
    · have := hb1.size; omega
  have hm1 := hm.below hb1
  have he12 : Eff (fun k => v.ownBlock = some k) w1 w2 := (Eff.refl _ w1).grown hg (fun k hk _ => hk)
  have heb : Eff (· = b) w2 (w2.setCell ⟨b, 0, none⟩ (.slice (some ⟨g, 0, none⟩) (its.length + 1) cap)) := (Eff.one b w2).set 0 _
  have hle := hb1.size
  have hold : ∀ x ∈ its, x.off (fun k => k = b ∨ (Value.slice (some ⟨g, 0, none⟩) (its.length + 1) cap).ownBlock = some k) := fun x hx a ha h => by
    rcases h with h | h
    · exact hm.off x hx a ha (.inl h)
    · have e : g = a.block := Option.some.inj h
      rcases hgo with h2 | h2
      · exact hm.off x hx a ha (.inr (by rw [h2, e]))
      · have := hm1.old x hx a ha
        omega
  refine ⟨A, c, .slice (some ⟨g, 0, none⟩) (its.length + 1) cap, rfl, ⟨?_, ?_, ?_, ?_, ?_, ?_, ?_⟩, fun a ha => (hyB a ha).1, fun k hk => ?_, ?_⟩
  · exact (he12.blk hm1.blk (fun h => hm.nb h)).set 0 _
  · exact heb.row hrow (fun k hk h => hgb ((Option.some.inj hk).trans h))
  · exact fun e => hgb (Option.some.inj e)
  · intro x hx
    rcases List.mem_append.1 hx with hx | hx
    · exact ((hm1.here x hx).eff he12 (fun a ha h => hm.off x hx a ha (.inr h))).eff heb (fun a ha h => hm.off x hx a ha (.inl h))
    · rw [List.mem_singleton] at hx
      subst hx
      exact (hy.eff he12 (fun a ha h => by have := (hyB a ha).1; have := hlt.2 _ h; omega)).eff heb (fun a ha h => by have h : a.block = b := h; have := (hyB a ha).1; omega)
  · intro x hx
    rcases List.mem_append.1 hx with hx | hx
    · exact hold x hx
    · rw [List.mem_singleton] at hx
      subst hx
      intro a ha h
      have := hyB a ha
      rcases h with h | h
      · omega
      · have e : g = a.block := Option.some.inj h
        rcases hgo with h2 | h2
        · have := hlt.2 _ h2; omega
        · omega
  · intro x hx a ha
    have h2 := (he12.size)
    have h3 := heb.size
    rcases List.mem_append.1 hx with hx | hx
    · have := hm1.old x hx a ha
      omega
    · rw [List.mem_singleton] at hx
      subst hx
      have := (hyB a ha).2
      omega
  · intro x hx
    rcases List.mem_append.1 hx with hx | hx
    · exact ((hm1.free x hx).eff he12 (fun a ha h => hm.off x hx a ha (.inr h)) (hm1.old x hx)).eff heb (fun a ha h => hm.off x hx a ha (.inl h)) (fun a ha => Nat.lt_of_lt_of_le (hm1.old x hx a ha) he12.size)
    · rw [List.mem_singleton] at hx
      subst hx
      exact (hyf.eff he12 (fun a ha h => by have := (hyB a ha).1; have := hlt.2 _ h; omega) (fun a ha => (hyB a ha).2)).eff heb (fun a ha h => by have h : a.block = b := h; have := (hyB a ha).1; omega) (fun a ha => Nat.lt_of_lt_of_le (hyB a ha).2 he12.size)
  · have e : g = k := Option.some.inj hk
    subst e
    rcases hgo with h2 | h2
    · exact .inl h2
    · exact .inr (by omega)
  · exact ((Eff.of_below hb1).step he12 (fun i _ h => .inr h)).step heb (fun i _ h => .inl h)

set_option maxRecDepth 100000 in
set_option maxHeartbeats 4000000 in
theorem put_any {b : Nat} {v : Value} {its : List It} {lost : Int} (x : It) (w : World) (hm : MailIs w b v its lost) (hx : x.here w) (hl : its.length < 4096) (hxl : x.bs.length ≤ 1000000) :
    Calls Try.prog 9 #[.pointer (some ⟨b, 0, none⟩), .int .i64 x.dst, .slice x.A x.bs.length x.c] w (GivesPut w b v its lost x.dst x.bs) := by
  obtain ⟨A0, c0, rfl, _, _, _⟩ := Sl.row hm.row
  have d0' : w.drew.cell? ⟨b, 0, none⟩ = some (.slice A0 its.length c0) := hm.blk.cell 0
  have hg : (its.length : Int) < 4096 := by omega
  have d0 : w.cell? ⟨b, 0, none⟩ = some (.slice A0 its.length c0) := d0'
  have hlt : b < w.drew.heap.size := hm.blk.lt
  have own := own_any x w.drew hx hxl
  simp only [It.val] at own
  have HO := hid own
  have HM := hid hm.drew
  have HL : Hid (its.length ≤ 100000) := by rw [Hid]; omega
  clear own hm hx hl hxl
  generalize x.dst = xd at *
  go_enter Try.func9, Try.ntmps9
  go_wp2_with fail
  refine wp_region_any (by kernel_rfl) ?_
  change wpAny _ _ _ _ _ _ _ (World.drew _)
  refine any_take 0 ?_ rfl (by kernel_rfl) (by kernel_rfl) (by kernel_rfl) (fun _ _ _ h => h) (by rfl) ?_ ?_
  rotate_left
  · (intro w; go_simp; try with_reducible rfl)
  try simp only [Act.put, List.setIfInBounds_toArray, List.set_cons_zero, List.set_cons_succ]
  refine any_take 1 ?_ rfl (by kernel_rfl) (by kernel_rfl) (by kernel_rfl) (fun _ _ _ h => h) (by rfl) ?_ ?_
  rotate_left
  · (intro w; go_simp; try with_reducible rfl)
  try simp only [Act.put, List.setIfInBounds_toArray, List.set_cons_zero, List.set_cons_succ]
  refine any_take 2 ?_ rfl (by kernel_rfl) (by kernel_rfl) (by kernel_rfl) (fun _ _ _ h => h) (by rfl) ?_ ?_
  rotate_left
  · (intro w; go_simp; try with_reducible rfl)
  try simp only [Act.put, List.setIfInBounds_toArray, List.set_cons_zero, List.set_cons_succ]
  refine any_take 3 ?_ rfl (by kernel_rfl) (by kernel_rfl) (by kernel_rfl) (fun _ _ _ h => h) (by rfl) ?_ ?_
  rotate_left
  · (intro w; go_simp; try with_reducible rfl)
  try simp only [Act.put, List.setIfInBounds_toArray, List.set_cons_zero, List.set_cons_succ]
  refine any_take 5 ?_ rfl (by kernel_rfl) (by kernel_rfl) (by kernel_rfl) (fun _ _ _ h => h) (by rfl) ?_ ?_
  rotate_left
  · (intro w; go_simp; try with_reducible rfl)
  try simp only [Act.put, List.setIfInBounds_toArray, List.set_cons_zero, List.set_cons_succ]
  refine any_take 6 ?_ rfl (by kernel_rfl) (by kernel_rfl) (by kernel_rfl) (fun _ _ _ h => h) (by rfl) ?_ ?_
  rotate_left
  · (intro w; go_simp; try with_reducible rfl)
  try simp only [Act.put, List.setIfInBounds_toArray, List.set_cons_zero, List.set_cons_succ]
  refine any_take 7 ?_ rfl (by kernel_rfl) (by kernel_rfl) (by kernel_rfl) (fun _ _ _ h => h) (by rfl) ?_ ?_
  rotate_left
  · (intro w; go_simp; try with_reducible rfl)
  try simp only [Act.put, List.setIfInBounds_toArray, List.set_cons_zero, List.set_cons_succ]
  refine any_two 4 8 rfl rfl (by kernel_rfl) (by rfl) (by rfl) ?_ ?_
  · intro K hK
    go_simp
    refine hK _ _ ?_
    clear hK K
    try simp only [Act.put, List.setIfInBounds_toArray, List.set_cons_zero, List.set_cons_succ]
    refine any_one 8 rfl (by kernel_rfl) (by rfl) ?_
    intro K hK
    go_simp
    refine HO.out.mono ?_
    rintro e w1 ⟨A1, c1, rfl, hy, hyB, hyf, hb1⟩
    have d1 : w1.cell? ⟨b, 0, none⟩ = some (.slice A0 its.length c0) := (hb1.cell (p := ⟨b, 0, none⟩) hlt).trans d0'
    have hlt1 : b < w1.heap.size := Nat.lt_of_lt_of_le hlt hb1.size
    have HY := hid (And.intro hy (And.intro hyB (And.intro hb1 hyf)))
    clear hy hyB hyf hb1
    refine hK _ _ ?_
    clear hK K
    try simp only [Act.put, List.setIfInBounds_toArray, List.set_cons_zero, List.set_cons_succ]
    refine any_one 9 rfl (by kernel_rfl) (by rfl) ?_
    intro K hK
    go_simp
    refine hK _ _ ?_
    clear hK K
    try simp only [Act.put, List.setIfInBounds_toArray, List.set_cons_zero, List.set_cons_succ]
    refine any_one 10 rfl (by kernel_rfl) (by rfl) ?_
    intro K hK
    refine wp_append_item (.tmp 24) (.tmp 29) rfl rfl (HM.out.below HY.out.2.2.1).row (⟨xd, A1, c1, x.bs⟩ : It) w1.heap.size rfl rfl rfl HL.out ?_
    intro g cap w2 hrow hgr hgo
    have hp := put_done HM.out HY.out.2.2.1 HY.out.1 HY.out.2.1 HY.out.2.2.2 hrow hgr hgo
    have he2 : Eff (fun k => (Value.slice A0 its.length c0).ownBlock = some k) w1 w2 := (Eff.refl _ w1).grown hgr (fun k hk _ => hk)
    have hb2 := he2.blk (HM.out.below HY.out.2.2.1).blk (fun h => HM.out.nb h)
    have d2 : w2.cell? ⟨b, 0, none⟩ = some (.slice A0 its.length c0) := hb2.cell 0
    have f2 : ∀ o, w2.frozen? ⟨b, o, none⟩ = false := hb2.frozen
    have HP := hid hp
    clear hp hrow hgr hgo he2 hb2
    refine hK _ _ ?_
    clear hK K
    try simp only [Act.put, List.setIfInBounds_toArray, List.set_cons_zero, List.set_cons_succ]
    refine any_take 11 ?_ rfl (by kernel_rfl) (by kernel_rfl) (by kernel_rfl) (fun _ _ _ h => h) (by rfl) ?_ ?_
    rotate_left
    · (intro w; go_simp; try with_reducible rfl)
    try simp only [Act.put, List.setIfInBounds_toArray, List.set_cons_zero, List.set_cons_succ]
    refine any_take 12 ?_ rfl (by kernel_rfl) (by kernel_rfl) (by kernel_rfl) (fun _ _ _ h => h) (by rfl) ?_ ?_
    rotate_left
    · (intro w; go_simp; try with_reducible rfl)
    try simp only [Act.put, List.setIfInBounds_toArray, List.set_cons_zero, List.set_cons_succ]
    refine any_one 13 rfl (by kernel_rfl) (by rfl) ?_
    intro K hK
    go_simp
    refine hK _ _ ?_
    clear hK K
    try simp only [Act.put, List.setIfInBounds_toArray, List.set_cons_zero, List.set_cons_succ]
    refine wpAny_done (by kernel_rfl) ?_ _
    go_wp2_with fail
    go_ret
    exact HP.out.undrew
  · intro K hK
    go_simp
    refine HO.out.mono ?_
    rintro e w1 ⟨A1, c1, rfl, hy, hyB, hyf, hb1⟩
    have d1 : w1.cell? ⟨b, 0, none⟩ = some (.slice A0 its.length c0) := (hb1.cell (p := ⟨b, 0, none⟩) hlt).trans d0'
    have hlt1 : b < w1.heap.size := Nat.lt_of_lt_of_le hlt hb1.size
    have HY := hid (And.intro hy (And.intro hyB (And.intro hb1 hyf)))
    clear hy hyB hyf hb1
    refine hK _ _ ?_
    clear hK K
    try simp only [Act.put, List.setIfInBounds_toArray, List.set_cons_zero, List.set_cons_succ]
    refine any_two 4 9 rfl rfl (by kernel_rfl) (by rfl) (by rfl) ?_ ?_
    · intro K hK
      go_simp
      refine hK _ _ ?_
      clear hK K
      try simp only [Act.put, List.setIfInBounds_toArray, List.set_cons_zero, List.set_cons_succ]
      refine any_one 9 rfl (by kernel_rfl) (by rfl) ?_
      intro K hK
      go_simp
      refine hK _ _ ?_
      clear hK K
      try simp only [Act.put, List.setIfInBounds_toArray, List.set_cons_zero, List.set_cons_succ]
      refine any_one 10 rfl (by kernel_rfl) (by rfl) ?_
      intro K hK
      refine wp_append_item (.tmp 24) (.tmp 29) rfl rfl (HM.out.below HY.out.2.2.1).row (⟨xd, A1, c1, x.bs⟩ : It) w1.heap.size rfl rfl rfl HL.out ?_
      intro g cap w2 hrow hgr hgo
      have hp := put_done HM.out HY.out.2.2.1 HY.out.1 HY.out.2.1 HY.out.2.2.2 hrow hgr hgo
      have he2 : Eff (fun k => (Value.slice A0 its.length c0).ownBlock = some k) w1 w2 := (Eff.refl _ w1).grown hgr (fun k hk _ => hk)
      have hb2 := he2.blk (HM.out.below HY.out.2.2.1).blk (fun h => HM.out.nb h)
      have d2 : w2.cell? ⟨b, 0, none⟩ = some (.slice A0 its.length c0) := hb2.cell 0
      have f2 : ∀ o, w2.frozen? ⟨b, o, none⟩ = false := hb2.frozen
      have HP := hid hp
      clear hp hrow hgr hgo he2 hb2
      refine hK _ _ ?_
      clear hK K
      try simp only [Act.put, List.setIfInBounds_toArray, List.set_cons_zero, List.set_cons_succ]
      refine any_take 11 ?_ rfl (by kernel_rfl) (by kernel_rfl) (by kernel_rfl) (fun _ _ _ h => h) (by rfl) ?_ ?_
      rotate_left
      · (intro w; go_simp; try with_reducible rfl)
      try simp only [Act.put, List.setIfInBounds_toArray, List.set_cons_zero, List.set_cons_succ]
      refine any_take 12 ?_ rfl (by kernel_rfl) (by kernel_rfl) (by kernel_rfl) (fun _ _ _ h => h) (by rfl) ?_ ?_
      rotate_left
      · (intro w; go_simp; try with_reducible rfl)
      try simp only [Act.put, List.setIfInBounds_toArray, List.set_cons_zero, List.set_cons_succ]
      refine any_one 13 rfl (by kernel_rfl) (by rfl) ?_
      intro K hK
      go_simp
      refine hK _ _ ?_
      clear hK K
      try simp only [Act.put, List.setIfInBounds_toArray, List.set_cons_zero, List.set_cons_succ]
      refine wpAny_done (by kernel_rfl) ?_ _
      go_wp2_with fail
      go_ret
      exact HP.out.undrew
    · intro K hK
      go_simp
      refine hK _ _ ?_
      clear hK K
      try simp only [Act.put, List.setIfInBounds_toArray, List.set_cons_zero, List.set_cons_succ]
      refine any_one 4 rfl (by kernel_rfl) (by rfl) ?_
      intro K hK
      go_simp
      refine hK _ _ ?_
      clear hK K
      try simp only [Act.put, List.setIfInBounds_toArray, List.set_cons_zero, List.set_cons_succ]
      refine any_one 10 rfl (by kernel_rfl) (by rfl) ?_
      intro K hK
      refine wp_append_item (.tmp 24) (.tmp 29) rfl rfl (HM.out.below HY.out.2.2.1).row (⟨xd, A1, c1, x.bs⟩ : It) w1.heap.size rfl rfl rfl HL.out ?_
      intro g cap w2 hrow hgr hgo
      have hp := put_done HM.out HY.out.2.2.1 HY.out.1 HY.out.2.1 HY.out.2.2.2 hrow hgr hgo
      have he2 : Eff (fun k => (Value.slice A0 its.length c0).ownBlock = some k) w1 w2 := (Eff.refl _ w1).grown hgr (fun k hk _ => hk)
      have hb2 := he2.blk (HM.out.below HY.out.2.2.1).blk (fun h => HM.out.nb h)
      have d2 : w2.cell? ⟨b, 0, none⟩ = some (.slice A0 its.length c0) := hb2.cell 0
      have f2 : ∀ o, w2.frozen? ⟨b, o, none⟩ = false := hb2.frozen
      have HP := hid hp
      clear hp hrow hgr hgo he2 hb2
      refine hK _ _ ?_
      clear hK K
      try simp only [Act.put, List.setIfInBounds_toArray, List.set_cons_zero, List.set_cons_succ]
      refine any_take 11 ?_ rfl (by kernel_rfl) (by kernel_rfl) (by kernel_rfl) (fun _ _ _ h => h) (by rfl) ?_ ?_
      rotate_left
      · (intro w; go_simp; try with_reducible rfl)
      try simp only [Act.put, List.setIfInBounds_toArray, List.set_cons_zero, List.set_cons_succ]
      refine any_take 12 ?_ rfl (by kernel_rfl) (by kernel_rfl) (by kernel_rfl) (fun _ _ _ h => h) (by rfl) ?_ ?_
      rotate_left
      · (intro w; go_simp; try with_reducible rfl)
      try simp only [Act.put, List.setIfInBounds_toArray, List.set_cons_zero, List.set_cons_succ]
      refine any_one 13 rfl (by kernel_rfl) (by rfl) ?_
      intro K hK
      go_simp
      refine hK _ _ ?_
      clear hK K
      try simp only [Act.put, List.setIfInBounds_toArray, List.set_cons_zero, List.set_cons_succ]
      refine wpAny_done (by kernel_rfl) ?_ _
      go_wp2_with fail
      go_ret
      exact HP.out.undrew
end Go.Proofs.Ytnhfnklbeifbhaa
