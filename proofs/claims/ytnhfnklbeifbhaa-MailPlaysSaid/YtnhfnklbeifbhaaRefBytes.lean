/- The document's copy of bytes; its frames on their way: Put, Again. -/
import Derived.Test.YtnhfnklbeifbhaaMailCopy
namespace Go.Proofs.Ytnhfnklbeifbhaa
open Go.RowKit
set_option linter.unusedSimpArgs false

def BytesRel (w : World) (xs : List Int) (v i : Value) (wr : World) : Prop :=
  ∃ k : Nat, k ≤ xs.length ∧ i = .int .i64 k ∧ wr.ownsRow w.heap.size 5 1 v k ((xs.take k).map (Value.int .u8)) ∧ Below w.heap.size w wr
attribute [irreducible] BytesRel
theorem take_one {xs : List Int} {k : Nat} (h : k < xs.length) : (xs.take (k + 1)).map (Value.int .u8) = (xs.take k).map (Value.int .u8) ++ [Value.int .u8 (xs[k])] := by
  rw [List.take_succ_eq_append_getElem h, List.map_append]
  rfl

set_option maxRecDepth 100000 in
set_option maxHeartbeats 4000000 in
theorem refBytes_any (A : Option Addr) (c : Nat) (xs : List Int) (w : World) (hs : Sl w A (xs.map (Value.int .u8))) (hl : xs.length ≤ 1000000) :
    Calls Try.prog 25 #[.slice A xs.length c] w (GivesBytes w xs.length xs) := by
  obtain ⟨ti, hi, hz, hsz, hby⟩ := info_parts rowBytes.info
  have HI := hid (And.intro hi (And.intro hz (And.intro hsz hby)))
  have hmm : xs.length ≤ maxLen := by unfold maxLen; omega
  have hb2 : ti.bytes * xs.length ≤ 281474976710656 := by rw [hby]; omega
  have HM := hid (And.intro hmm hb2)
  clear hi hz hsz hby hmm hb2
  go_enter Try.func25, Try.ntmps25
  go_wp2_with (at_make; refine wpList_make_own _ rfl _ _ 28 rfl w.heap.size 5 ti (.int .u8 0) 1 Try.underlying28 HI.out.1 HI.out.2.1 HI.out.2.2.1 .i64 .i64 _ xs.length rfl rfl rfl HM.out.2 HM.out.1 (Nat.le_refl _) ?_; intro w3 hown hg)
  have hb3 : Below w.heap.size w w3 := ⟨hg.os, hg.tape, hg.output, hg.size, fun k hk => hg.block k hk (by simp)⟩
  clear hg
  go_loopw [3, 4] (fun v i wr => BytesRel w xs v i wr) (fun _ i _ => xs.length - (intOf i).toNat)
  case atStart => unfold BytesRel; exact ⟨0, by omega, rfl, hown, hb3⟩
  case round =>
    clear hown hb3
    unfold BytesRel at hrel
    obtain ⟨k, hk, rfl, hown, hB⟩ := hrel
    obtain ⟨A1, k1, rfl, _, _, hs1⟩ := Sl.row hown
    by_cases hlt : k < xs.length
    · obtain ⟨b0, o0, rfl, hbw, hcx⟩ := hs.at (by rw [List.length_map]; omega)
      have c0 : wr.cell? ⟨b0, o0 + k, none⟩ = some (.int .u8 xs[k]) := (hB.cell (p := ⟨b0, o0 + k, none⟩) hbw).trans ((hcx k (by rw [List.length_map]; omega)).trans (by simp))
      obtain ⟨x, hx⟩ : ∃ x, xs[k] = x := ⟨_, rfl⟩
      have ht := take_one hlt
      rw [hx] at c0 ht
      have HT := hid ht
      clear ht
      have HN : Hid (∀ j u, [Value.int .u8 x][j]? = some u → (wr.alloc (.cells #[.int .u8 x] 5)).cell? ((⟨wr.heap.size, 0, none⟩ : Addr).add j) = some u) := by
        intro j u hu
        rw [add_at, Nat.zero_add, (Blk.new wr [Value.int .u8 x] 5).cell, hu]
      have HO := hid (hown.alloc (.cells #[.int .u8 x] 5))
      have h1 : ∀ u ∈ [Value.int .u8 x], u.oneCell' = true := ints_oneCell .u8 [x]
      have H1 := hid h1
      have hm : k + 1 ≤ maxLen := by unfold maxLen; omega
      have hby2 : (k + 1) * 1 ≤ 140737488355328 := by omega
      have HQ := hid (And.intro hm (And.intro hby2 (Nat.le_trans hB.size (by simp : wr.heap.size ≤ (wr.alloc (.cells #[.int .u8 x] 5)).heap.size))))
      clear hown hx hcx h1 hm hby2
      go_wp2_with (at_builtin; refine wpList_append_own _ rfl _ _ 28 rfl w.heap.size 5 ti (.int .u8 0) 1 1 Try.underlying28 HI.out.1 HI.out.2.1 HI.out.2.2.1 HI.out.2.2.2 rfl (by decide) _ k _ rfl HO.out ⟨wr.heap.size, 0, none⟩ 1 1 [Value.int .u8 x] rfl rfl HN.out H1.out HQ.out.1 HQ.out.2.1 HQ.out.2.2 ?_; intro v w5 hown5 hg _)
      have hb5 : Below w.heap.size w w5 := (hB.alloc hB.size (.cells #[.int .u8 x] 5)).grown hg HQ.out.2.2 (fun j hj => (HO.out.lt j hj).1)
      have ho5 : w5.ownsRow w.heap.size 5 1 v (k + 1) ((xs.take (k + 1)).map (Value.int .u8)) := by rw [HT.out]; exact hown5
      go_roundw
      case rel => unfold BytesRel; exact ⟨k + 1, by omega, by go_num, ho5, hb5⟩
      case measure => simp [intOf]; omega
    · obtain rfl : xs.length = k := by omega
      rw [List.take_length] at hown
      go_wp2_with fail
      go_ret
      exact ⟨_, rfl, hown, hB⟩

theorem zero_ritem (w : World) : (zeroValue 48).run Try.prog w = .ok (.agg #[.int .i64 0, .slice none 0 0]) w := by kernel_rfl
theorem rowRItems : RowT Try.prog 42 48 (.agg #[.int .i64 0, .slice none 0 0]) 2 32 := ⟨Try.underlying42, by kernel_rfl, rfl, by decide⟩
abbrev RMailIs (w : World) (b : Nat) (v : Value) (its : List It) (lost : Int) : Prop := MailAt 44 48 w b v its lost
def GivesBs (w : World) (dst : Int) (bs : List Int) (e : Ending) (w' : World) : Prop :=
  ∃ (A : Option Addr) (c : Nat), e = .returned (.slice A bs.length c) ∧ It.here w' ⟨dst, A, c, bs⟩ ∧ (∀ a, A = some a → w.heap.size ≤ a.block ∧ a.block < w'.heap.size) ∧ It.free w' ⟨dst, A, c, bs⟩ ∧ Below w.heap.size w w'
theorem refBytes_item (x : It) (w : World) (hx : x.here w) (hl : x.bs.length ≤ 1000000) :
    Calls Try.prog 25 #[.slice x.A x.bs.length x.c] w (GivesBs w x.dst x.bs) := by
  refine (refBytes_any x.A x.c x.bs w hx hl).mono ?_
  rintro e w1 ⟨v, rfl, hown, hb1⟩
  obtain ⟨A1, k1, rfl, _, _, hs1⟩ := Sl.row hown
  refine ⟨A1, k1, rfl, hs1, fun a ha => hown.lt a.block (by rw [ha]; rfl), ?_, hb1⟩
  intro a ha o
  have ha : A1 = some a := ha
  subst ha
  rcases hown.2 with ⟨h, _⟩ | ⟨g', cap', cur, h', _, hg, _⟩
  · simp at h
  · have e : a = ⟨g', 0, none⟩ := by injection h' with h'; exact Option.some.inj h'
    subst e
    exact frozen_of_row w1 g' o cur _ hg

/-- Put where there is no room. -/
theorem rPutFull_any {b : Nat} {v : Value} {its : List It} {lost : Int} (dst : Int) (A : Option Addr) (n c : Nat) (w : World) (hm : RMailIs w b v its lost) (hl : 4096 ≤ its.length) (hlost : 0 ≤ lost ∧ lost < 9223372036854775807) :
    Calls Try.prog 18 #[.pointer (some ⟨b, 0, none⟩), .int .i64 dst, .slice A n c] w fun e w' => e = .returned (.bool false) ∧ RMailIs w' b v its (lost + 1) ∧ Eff (· = b) w w' := by
  obtain ⟨A0, c0, rfl, _, _, _⟩ := Sl.row hm.row
  obtain ⟨hlo, hhi⟩ := hlost
  have d0 : w.cell? ⟨b, 0, none⟩ = some (.slice A0 its.length c0) := hm.blk.cell 0
  have d1 : w.cell? ⟨b, 1, none⟩ = some (.int .i64 lost) := hm.blk.cell 1
  have hf : w.frozen? ⟨b, 1, none⟩ = false := hm.blk.frozen 1
  have hg : 4096 ≤ (its.length : Int) := by omega
  have he : Eff (· = b) w (w.setCell ⟨b, 1, none⟩ (.int .i64 (lost + 1))) := (Eff.one b w).set 1 _
  have HM : Hid (RMailIs (w.setCell ⟨b, 1, none⟩ (.int .i64 (lost + 1))) b (.slice A0 its.length c0) its (lost + 1)) :=
    ⟨hm.blk.set 1 _, he.row hm.row (fun k hk h => hm.nb (by rw [hk, h])), hm.nb, fun x hx => (hm.here x hx).eff he (fun a ha h => hm.off x hx a ha (.inl h)), hm.off, fun x hx a ha => Nat.lt_of_lt_of_le (hm.old x hx a ha) he.size, fun x hx => (hm.free x hx).eff he (fun a ha h => hm.off x hx a ha (.inl h)) (hm.old x hx)⟩
  clear hm hl
  go_enter Try.func18, Try.ntmps18
  go_wp2
  go_ret
  exact ⟨rfl, HM.out, he⟩

/-- An item more, laid in a block just ahead of it. -/
theorem wp_append_ritem {o : Oper} {a : Act} {K : Act → World → Prop} {Q : Exit → Act → World → Prop} {w1 w : World} {v : Value} {its : List It} (s x : Operand)
    (ho : o.op = .call { callee := .builtin .append, args := #[s, x], argTypes := #[42, 42] }) (hs : a.eval s = v) (hrow : w1.ownsRow 0 48 2 v its.length (its.flatMap It.cells))
    (y : It) (B : Nat) (hB : w1.heap.size = B) (hx : a.eval x = .slice (some ⟨B, 0, none⟩) 1 1) (hw : w = w1.alloc (.cells y.cells.toArray 48)) (hlen : its.length ≤ 100000)
    (h : ∀ g cap w', w'.ownsRow 0 48 2 (.slice (some ⟨g, 0, none⟩) (its.length + 1) cap) (its ++ [y]).length ((its ++ [y]).flatMap It.cells) → w1.grownBy w' v.ownBlock → (v.ownBlock = some g ∨ w1.heap.size ≤ g) →
      K (a.put o.dst (.slice (some ⟨g, 0, none⟩) (its.length + 1) cap)) w') : o.wp Try.prog a w K Q := by
  obtain ⟨ti, hi, hz, hsz, hby⟩ := info_parts rowRItems.info
  subst hw hB
  refine wp_append_lies _ s x 42 ho 0 48 ti _ 2 32 rowRItems.und hi hz hsz hby rfl (by decide) v its.length _ hs (hrow.alloc _) ⟨w1.heap.size, 0, none⟩ 1 1 y.cells hx rfl ?_ ?_ (by decide) (by unfold maxLen; omega) (by omega) (Nat.zero_le _) _ rfl ?_
  · intro j u hu
    have e1 : (⟨w1.heap.size, 0, none⟩ : Addr).add j = ⟨w1.heap.size, j, none⟩ := by unfold Addr.add; split <;> simp_all
    rw [e1, (Blk.new w1 y.cells 48).cell, hu]
  · exact List.all_eq_true.1 (by rfl)
  · intro g cap w' ho' hg hgo _
    have hgr : w1.grownBy w' v.ownBlock := ⟨hg.os, hg.tape, hg.output, Nat.le_trans (by simp) hg.size, fun k hk hn => (hg.block k (Nat.lt_of_lt_of_le hk (by simp)) hn).trans (Below.heap_alloc _ _ _ hk)⟩
    refine h g cap w' ?_ hgr (hgo.imp_right fun e => by rw [e]; simp)
    simpa using ho'

/-- Put where there is room: the frame stands at the end, its bytes are its own. -/
def RGivesPut (w : World) (b : Nat) (v : Value) (its : List It) (lost dst : Int) (bs : List Int) (e : Ending) (w' : World) : Prop :=
  ∃ (A : Option Addr) (c : Nat) (v' : Value), e = .returned (.bool true) ∧ RMailIs w' b v' (its ++ [⟨dst, A, c, bs⟩]) lost ∧ (∀ a, A = some a → w.heap.size ≤ a.block) ∧
    (∀ k, v'.ownBlock = some k → v.ownBlock = some k ∨ w.heap.size ≤ k) ∧ Eff (MailOwn b v) w w'

theorem RGivesPut.undrew {w w' : World} {b : Nat} {v : Value} {its : List It} {lost dst : Int} {bs : List Int} {e : Ending} (h : RGivesPut w.drew b v its lost dst bs e w') : RGivesPut w b v its lost dst bs e w' := by
  obtain ⟨A, c, v', he, hm, h1, h2, h3⟩ := h
  exact ⟨A, c, v', he, hm, h1, h2, ⟨h3.os, h3.tape, h3.output, h3.size, h3.block⟩⟩
/-- Behind the append and the store. -/
theorem rPut_done {w w1 w2 : World} {b g cap : Nat} {v : Value} {its : List It} {lost dst : Int} {A : Option Addr} {c : Nat} {bs : List Int} (hm : RMailIs w b v its lost) (hb1 : Below w.heap.size w w1) (hy : It.here w1 ⟨dst, A, c, bs⟩)
    (hyB : ∀ a, A = some a → w.heap.size ≤ a.block ∧ a.block < w1.heap.size) (hyf : It.free w1 ⟨dst, A, c, bs⟩)
    (hrow : w2.ownsRow 0 48 2 (.slice (some ⟨g, 0, none⟩) (its.length + 1) cap) (its ++ [(⟨dst, A, c, bs⟩ : It)]).length ((its ++ [(⟨dst, A, c, bs⟩ : It)]).flatMap It.cells)) (hg : w1.grownBy w2 v.ownBlock) (hgo : v.ownBlock = some g ∨ w1.heap.size ≤ g) :
    RGivesPut w b v its lost dst bs (.returned (.bool true)) (w2.setCell ⟨b, 0, none⟩ (.slice (some ⟨g, 0, none⟩) (its.length + 1) cap)) := by
  have hlt := hm.lt
  have hgb : g ≠ b := by
    rcases hgo with h | h
    · exact fun e => hm.nb (by rw [h, e])
    · have := hb1.size; omega
  have hm1 := hm.below hb1
  have he12 : Eff (fun k => v.ownBlock = some k) w1 w2 := (Eff.refl _ w1).grown hg (fun k hk _ => hk)
  have heb : Eff (· = b) w2 (w2.setCell ⟨b, 0, none⟩ (.slice (some ⟨g, 0, none⟩) (its.length + 1) cap)) := (Eff.one b w2).set 0 _
  have hle := hb1.size
  have hold : ∀ x ∈ its, x.off (fun k => k = b ∨ (Value.slice (some ⟨g, 0, none⟩) (its.length + 1) cap).ownBlock = some k) := fun x hx a ha h => by
    rcases h with h | h
    · exact hm.off x hx a ha (.inl h)
    · have e : g = a.block := Option.some.inj h
      rcases hgo with h2 | h2
      · exact hm.off x hx a ha (.inr (by rw [h2, e]))
      · have := hm1.old x hx a ha
        omega
  refine ⟨A, c, .slice (some ⟨g, 0, none⟩) (its.length + 1) cap, rfl, ⟨?_, ?_, ?_, ?_, ?_, ?_, ?_⟩, fun a ha => (hyB a ha).1, fun k hk => ?_, ?_⟩
  · exact (he12.blk hm1.blk (fun h => hm.nb h)).set 0 _
  · exact heb.row hrow (fun k hk h => hgb ((Option.some.inj hk).trans h))
  · exact fun e => hgb (Option.some.inj e)
  · intro x hx
    rcases List.mem_append.1 hx with hx | hx
    · exact ((hm1.here x hx).eff he12 (fun a ha h => hm.off x hx a ha (.inr h))).eff heb (fun a ha h => hm.off x hx a ha (.inl h))
    · rw [List.mem_singleton] at hx
      subst hx
      exact (hy.eff he12 (fun a ha h => by have := (hyB a ha).1; have := hlt.2 _ h; omega)).eff heb (fun a ha h => by have h : a.block = b := h; have := (hyB a ha).1; omega)
  · intro x hx
    rcases List.mem_append.1 hx with hx | hx
    · exact hold x hx
    · rw [List.mem_singleton] at hx
      subst hx
      intro a ha h
      have := hyB a ha
      rcases h with h | h
      · omega
      · have e : g = a.block := Option.some.inj h
        rcases hgo with h2 | h2
        · have := hlt.2 _ h2; omega
        · omega
  · intro x hx a ha
    have h2 := (he12.size)
    have h3 := heb.size
    rcases List.mem_append.1 hx with hx | hx
    · have := hm1.old x hx a ha
      omega
    · rw [List.mem_singleton] at hx
      subst hx
      have := (hyB a ha).2
      omega
  · intro x hx
    rcases List.mem_append.1 hx with hx | hx
    · exact ((hm1.free x hx).eff he12 (fun a ha h => hm.off x hx a ha (.inr h)) (hm1.old x hx)).eff heb (fun a ha h => hm.off x hx a ha (.inl h)) (fun a ha => Nat.lt_of_lt_of_le (hm1.old x hx a ha) he12.size)
    · rw [List.mem_singleton] at hx
      subst hx
      exact (hyf.eff he12 (fun a ha h => by have := (hyB a ha).1; have := hlt.2 _ h; omega) (fun a ha => (hyB a ha).2)).eff heb (fun a ha h => by have h : a.block = b := h; have := (hyB a ha).1; omega) (fun a ha => Nat.lt_of_lt_of_le (hyB a ha).2 he12.size)
  · have e : g = k := Option.some.inj hk
    subst e
    rcases hgo with h2 | h2
    · exact .inl h2
    · exact .inr (by omega)
  · exact ((Eff.of_below hb1).step he12 (fun i _ h => .inr h)).step heb (fun i _ h => .inl h)

set_option maxRecDepth 100000 in
set_option maxHeartbeats 4000000 in
theorem rPut_any {b : Nat} {v : Value} {its : List It} {lost : Int} (x : It) (w : World) (hm : RMailIs w b v its lost) (hx : x.here w) (hl : its.length < 4096) (hxl : x.bs.length ≤ 1000000) :
    Calls Try.prog 18 #[.pointer (some ⟨b, 0, none⟩), .int .i64 x.dst, .slice x.A x.bs.length x.c] w (RGivesPut w b v its lost x.dst x.bs) := by
  obtain ⟨A0, c0, rfl, _, _, _⟩ := Sl.row hm.row
  have d0' : w.drew.cell? ⟨b, 0, none⟩ = some (.slice A0 its.length c0) := hm.blk.cell 0
  have hg : (its.length : Int) < 4096 := by omega
  have d0 : w.cell? ⟨b, 0, none⟩ = some (.slice A0 its.length c0) := d0'
  have hlt : b < w.drew.heap.size := hm.blk.lt
  have own := refBytes_item x w.drew hx hxl
  have HO := hid own
  have HM := hid hm.drew
  have HL : Hid (its.length ≤ 100000) := by rw [Hid]; omega
  clear own hm hx hl hxl
  generalize x.dst = xd at *
  go_enter Try.func18, Try.ntmps18
  go_wp2_with fail
  refine wp_region_any (by kernel_rfl) ?_
  change wpAny _ _ _ _ _ _ _ (World.drew _)
  refine any_take 0 ?_ rfl (by kernel_rfl) (by kernel_rfl) (by kernel_rfl) (fun _ _ _ h => h) (by rfl) ?_ ?_
  rotate_left
  · (intro w; go_simp; try with_reducible rfl)
  try simp only [Act.put, List.setIfInBounds_toArray, List.set_cons_zero, List.set_cons_succ]
  refine any_take 1 ?_ rfl (by kernel_rfl) (by kernel_rfl) (by kernel_rfl) (fun _ _ _ h => h) (by rfl) ?_ ?_
  rotate_left
  · (intro w; go_simp; try with_reducible rfl)
  try simp only [Act.put, List.setIfInBounds_toArray, List.set_cons_zero, List.set_cons_succ]
  refine any_take 2 ?_ rfl (by kernel_rfl) (by kernel_rfl) (by kernel_rfl) (fun _ _ _ h => h) (by rfl) ?_ ?_
  rotate_left
  · (intro w; go_simp; try with_reducible rfl)
  try simp only [Act.put, List.setIfInBounds_toArray, List.set_cons_zero, List.set_cons_succ]
  refine any_take 3 ?_ rfl (by kernel_rfl) (by kernel_rfl) (by kernel_rfl) (fun _ _ _ h => h) (by rfl) ?_ ?_
  rotate_left
  · (intro w; go_simp; try with_reducible rfl)
  try simp only [Act.put, List.setIfInBounds_toArray, List.set_cons_zero, List.set_cons_succ]
  refine any_take 5 ?_ rfl (by kernel_rfl) (by kernel_rfl) (by kernel_rfl) (fun _ _ _ h => h) (by rfl) ?_ ?_
  rotate_left
  · (intro w; go_simp; try with_reducible rfl)
  try simp only [Act.put, List.setIfInBounds_toArray, List.set_cons_zero, List.set_cons_succ]
  refine any_take 6 ?_ rfl (by kernel_rfl) (by kernel_rfl) (by kernel_rfl) (fun _ _ _ h => h) (by rfl) ?_ ?_
  rotate_left
  · (intro w; go_simp; try with_reducible rfl)
  try simp only [Act.put, List.setIfInBounds_toArray, List.set_cons_zero, List.set_cons_succ]
  refine any_two 4 7 rfl rfl (by kernel_rfl) (by rfl) (by rfl) ?_ ?_
  · intro K hK
    go_simp
    refine hK _ _ ?_
    clear hK K
    try simp only [Act.put, List.setIfInBounds_toArray, List.set_cons_zero, List.set_cons_succ]
    refine any_one 7 rfl (by kernel_rfl) (by rfl) ?_
    intro K hK
    go_simp
    refine HO.out.mono ?_
    rintro e w1 ⟨A1, c1, rfl, hy, hyB, hyf, hb1⟩
    have d1 : w1.cell? ⟨b, 0, none⟩ = some (.slice A0 its.length c0) := (hb1.cell (p := ⟨b, 0, none⟩) hlt).trans d0'
    have hlt1 : b < w1.heap.size := Nat.lt_of_lt_of_le hlt hb1.size
    have HY := hid (And.intro hy (And.intro hyB (And.intro hb1 hyf)))
    clear hy hyB hyf hb1
    refine hK _ _ ?_
    clear hK K
    try simp only [Act.put, List.setIfInBounds_toArray, List.set_cons_zero, List.set_cons_succ]
    refine any_take 8 ?_ rfl (by kernel_rfl) (by kernel_rfl) (by kernel_rfl) (fun _ _ _ h => h) (by rfl) ?_ ?_
    rotate_left
    · (intro w; go_simp; try with_reducible rfl)
    try simp only [Act.put, List.setIfInBounds_toArray, List.set_cons_zero, List.set_cons_succ]
    refine any_one 9 rfl (by kernel_rfl) (by rfl) ?_
    intro K hK
    go_simp
    refine hK _ _ ?_
    clear hK K
    try simp only [Act.put, List.setIfInBounds_toArray, List.set_cons_zero, List.set_cons_succ]
    refine any_one 10 rfl (by kernel_rfl) (by rfl) ?_
    intro K hK
    refine wp_append_ritem (.tmp 25) (.tmp 30) rfl rfl (HM.out.below HY.out.2.2.1).row (⟨xd, A1, c1, x.bs⟩ : It) w1.heap.size rfl rfl rfl HL.out ?_
    intro g cap w2 hrow hgr hgo
    have hp := rPut_done HM.out HY.out.2.2.1 HY.out.1 HY.out.2.1 HY.out.2.2.2 hrow hgr hgo
    have he2 : Eff (fun k => (Value.slice A0 its.length c0).ownBlock = some k) w1 w2 := (Eff.refl _ w1).grown hgr (fun k hk _ => hk)
    have hb2 := he2.blk (HM.out.below HY.out.2.2.1).blk (fun h => HM.out.nb h)
    have d2 : w2.cell? ⟨b, 0, none⟩ = some (.slice A0 its.length c0) := hb2.cell 0
    have f2 : ∀ o, w2.frozen? ⟨b, o, none⟩ = false := hb2.frozen
    have HP := hid hp
    clear hp hrow hgr hgo he2 hb2
    refine hK _ _ ?_
    clear hK K
    try simp only [Act.put, List.setIfInBounds_toArray, List.set_cons_zero, List.set_cons_succ]
    refine any_take 11 ?_ rfl (by kernel_rfl) (by kernel_rfl) (by kernel_rfl) (fun _ _ _ h => h) (by rfl) ?_ ?_
    rotate_left
    · (intro w; go_simp; try with_reducible rfl)
    try simp only [Act.put, List.setIfInBounds_toArray, List.set_cons_zero, List.set_cons_succ]
    refine any_take 12 ?_ rfl (by kernel_rfl) (by kernel_rfl) (by kernel_rfl) (fun _ _ _ h => h) (by rfl) ?_ ?_
    rotate_left
    · (intro w; go_simp; try with_reducible rfl)
    try simp only [Act.put, List.setIfInBounds_toArray, List.set_cons_zero, List.set_cons_succ]
    refine any_one 13 rfl (by kernel_rfl) (by rfl) ?_
    intro K hK
    go_simp
    refine hK _ _ ?_
    clear hK K
    try simp only [Act.put, List.setIfInBounds_toArray, List.set_cons_zero, List.set_cons_succ]
    refine wpAny_done (by kernel_rfl) ?_ _
    go_wp2_with fail
    go_ret
    exact HP.out.undrew
  · intro K hK
    go_simp
    refine HO.out.mono ?_
    rintro e w1 ⟨A1, c1, rfl, hy, hyB, hyf, hb1⟩
    have d1 : w1.cell? ⟨b, 0, none⟩ = some (.slice A0 its.length c0) := (hb1.cell (p := ⟨b, 0, none⟩) hlt).trans d0'
    have hlt1 : b < w1.heap.size := Nat.lt_of_lt_of_le hlt hb1.size
    have HY := hid (And.intro hy (And.intro hyB (And.intro hb1 hyf)))
    clear hy hyB hyf hb1
    refine hK _ _ ?_
    clear hK K
    try simp only [Act.put, List.setIfInBounds_toArray, List.set_cons_zero, List.set_cons_succ]
    refine any_take 8 ?_ rfl (by kernel_rfl) (by kernel_rfl) (by kernel_rfl) (fun _ _ _ h => h) (by rfl) ?_ ?_
    rotate_left
    · (intro w; go_simp; try with_reducible rfl)
    try simp only [Act.put, List.setIfInBounds_toArray, List.set_cons_zero, List.set_cons_succ]
    refine any_two 4 9 rfl rfl (by kernel_rfl) (by rfl) (by rfl) ?_ ?_
    · intro K hK
      go_simp
      refine hK _ _ ?_
      clear hK K
      try simp only [Act.put, List.setIfInBounds_toArray, List.set_cons_zero, List.set_cons_succ]
      refine any_one 9 rfl (by kernel_rfl) (by rfl) ?_
      intro K hK
      go_simp
      refine hK _ _ ?_
      clear hK K
      try simp only [Act.put, List.setIfInBounds_toArray, List.set_cons_zero, List.set_cons_succ]
      refine any_one 10 rfl (by kernel_rfl) (by rfl) ?_
      intro K hK
      refine wp_append_ritem (.tmp 25) (.tmp 30) rfl rfl (HM.out.below HY.out.2.2.1).row (⟨xd, A1, c1, x.bs⟩ : It) w1.heap.size rfl rfl rfl HL.out ?_
      intro g cap w2 hrow hgr hgo
      have hp := rPut_done HM.out HY.out.2.2.1 HY.out.1 HY.out.2.1 HY.out.2.2.2 hrow hgr hgo
      have he2 : Eff (fun k => (Value.slice A0 its.length c0).ownBlock = some k) w1 w2 := (Eff.refl _ w1).grown hgr (fun k hk _ => hk)
      have hb2 := he2.blk (HM.out.below HY.out.2.2.1).blk (fun h => HM.out.nb h)
      have d2 : w2.cell? ⟨b, 0, none⟩ = some (.slice A0 its.length c0) := hb2.cell 0
      have f2 : ∀ o, w2.frozen? ⟨b, o, none⟩ = false := hb2.frozen
      have HP := hid hp
      clear hp hrow hgr hgo he2 hb2
      refine hK _ _ ?_
      clear hK K
      try simp only [Act.put, List.setIfInBounds_toArray, List.set_cons_zero, List.set_cons_succ]
      refine any_take 11 ?_ rfl (by kernel_rfl) (by kernel_rfl) (by kernel_rfl) (fun _ _ _ h => h) (by rfl) ?_ ?_
      rotate_left
      · (intro w; go_simp; try with_reducible rfl)
      try simp only [Act.put, List.setIfInBounds_toArray, List.set_cons_zero, List.set_cons_succ]
      refine any_take 12 ?_ rfl (by kernel_rfl) (by kernel_rfl) (by kernel_rfl) (fun _ _ _ h => h) (by rfl) ?_ ?_
      rotate_left
      · (intro w; go_simp; try with_reducible rfl)
      try simp only [Act.put, List.setIfInBounds_toArray, List.set_cons_zero, List.set_cons_succ]
      refine any_one 13 rfl (by kernel_rfl) (by rfl) ?_
      intro K hK
      go_simp
      refine hK _ _ ?_
      clear hK K
      try simp only [Act.put, List.setIfInBounds_toArray, List.set_cons_zero, List.set_cons_succ]
      refine wpAny_done (by kernel_rfl) ?_ _
      go_wp2_with fail
      go_ret
      exact HP.out.undrew
    · intro K hK
      go_simp
      refine hK _ _ ?_
      clear hK K
      try simp only [Act.put, List.setIfInBounds_toArray, List.set_cons_zero, List.set_cons_succ]
      refine any_one 4 rfl (by kernel_rfl) (by rfl) ?_
      intro K hK
      go_simp
      refine hK _ _ ?_
      clear hK K
      try simp only [Act.put, List.setIfInBounds_toArray, List.set_cons_zero, List.set_cons_succ]
      refine any_one 10 rfl (by kernel_rfl) (by rfl) ?_
      intro K hK
      refine wp_append_ritem (.tmp 25) (.tmp 30) rfl rfl (HM.out.below HY.out.2.2.1).row (⟨xd, A1, c1, x.bs⟩ : It) w1.heap.size rfl rfl rfl HL.out ?_
      intro g cap w2 hrow hgr hgo
      have hp := rPut_done HM.out HY.out.2.2.1 HY.out.1 HY.out.2.1 HY.out.2.2.2 hrow hgr hgo
      have he2 : Eff (fun k => (Value.slice A0 its.length c0).ownBlock = some k) w1 w2 := (Eff.refl _ w1).grown hgr (fun k hk _ => hk)
      have hb2 := he2.blk (HM.out.below HY.out.2.2.1).blk (fun h => HM.out.nb h)
      have d2 : w2.cell? ⟨b, 0, none⟩ = some (.slice A0 its.length c0) := hb2.cell 0
      have f2 : ∀ o, w2.frozen? ⟨b, o, none⟩ = false := hb2.frozen
      have HP := hid hp
      clear hp hrow hgr hgo he2 hb2
      refine hK _ _ ?_
      clear hK K
      try simp only [Act.put, List.setIfInBounds_toArray, List.set_cons_zero, List.set_cons_succ]
      refine any_take 11 ?_ rfl (by kernel_rfl) (by kernel_rfl) (by kernel_rfl) (fun _ _ _ h => h) (by rfl) ?_ ?_
      rotate_left
      · (intro w; go_simp; try with_reducible rfl)
      try simp only [Act.put, List.setIfInBounds_toArray, List.set_cons_zero, List.set_cons_succ]
      refine any_take 12 ?_ rfl (by kernel_rfl) (by kernel_rfl) (by kernel_rfl) (fun _ _ _ h => h) (by rfl) ?_ ?_
      rotate_left
      · (intro w; go_simp; try with_reducible rfl)
      try simp only [Act.put, List.setIfInBounds_toArray, List.set_cons_zero, List.set_cons_succ]
      refine any_one 13 rfl (by kernel_rfl) (by rfl) ?_
      intro K hK
      go_simp
      refine hK _ _ ?_
      clear hK K
      try simp only [Act.put, List.setIfInBounds_toArray, List.set_cons_zero, List.set_cons_succ]
      refine wpAny_done (by kernel_rfl) ?_ _
      go_wp2_with fail
      go_ret
      exact HP.out.undrew

set_option maxHeartbeats 1600000 in
theorem againNo_any {b : Nat} {v : Value} {its : List It} {lost : Int} (i : Int) (w : World) (hm : RMailIs w b v its lost) (hn : ¬ (0 ≤ i ∧ i < its.length)) :
    Calls Try.prog 20 #[.pointer (some ⟨b, 0, none⟩), .int .i64 i] w fun e w' => e = .returned (.bool false) ∧ w = w' := by
  obtain ⟨A0, c0, rfl, _, _, _⟩ := Sl.row hm.row
  have d0 : w.cell? ⟨b, 0, none⟩ = some (.slice A0 its.length c0) := hm.blk.cell 0
  clear hm
  by_cases h0 : i < 0
  · clear hn
    go_enter Try.func20, Try.ntmps20
    go_wp2_with fail
    go_ret
    exact ⟨rfl, rfl⟩
  · have h1 : (its.length : Int) ≤ i := by omega
    have h2 : 0 ≤ i := by omega
    clear hn h0
    go_enter Try.func20, Try.ntmps20
    go_wp2_with fail
    go_ret
    exact ⟨rfl, rfl⟩

set_option maxRecDepth 100000 in
set_option maxHeartbeats 8000000 in
theorem again_any {b : Nat} {v : Value} {its : List It} {lost : Int} (i : Nat) (x : It) (w : World) (hm : RMailIs w b v its lost) (hx : its[i]? = some x) (hl : its.length < 4096) (hxl : x.bs.length ≤ 1000000) :
    Calls Try.prog 20 #[.pointer (some ⟨b, 0, none⟩), .int .i64 i] w (RGivesPut w b v its lost x.dst x.bs) := by
  have hi := (List.getElem?_eq_some_iff.1 hx).1
  obtain ⟨g, cap, rfl, hcap, hcm, x0, x1⟩ := row_item (w := w.drew) hm.row hx
  have d0 : w.drew.cell? ⟨b, 0, none⟩ = some (.slice (some ⟨g, 0, none⟩) its.length cap) := hm.blk.cell 0
  have d0' : w.cell? ⟨b, 0, none⟩ = some (.slice (some ⟨g, 0, none⟩) its.length cap) := hm.blk.cell 0
  have HM := hid hm.drew
  have hp := rPut_any x w.drew hm.drew (hm.here x (List.mem_of_getElem? hx)) hl hxl
  have HP := hid hp
  have i1 : (i : Int) < its.length := by omega
  unfold maxLen at hcm
  clear hm hx hp hxl hl
  go_enter Try.func20, Try.ntmps20
  go_wp2_with fail
  refine wp_region_any (by kernel_rfl) ?_
  change wpAny _ _ _ _ _ _ _ (World.drew _)
  refine any_take 0 ?_ rfl (by kernel_rfl) (by kernel_rfl) (by kernel_rfl) (fun _ _ _ h => h) (by rfl) ?_ ?_
  rotate_left
  · (intro w; go_simp; try with_reducible rfl)
  try simp only [Act.put, List.setIfInBounds_toArray, List.set_cons_zero, List.set_cons_succ]
  refine any_take 1 ?_ rfl (by kernel_rfl) (by kernel_rfl) (by kernel_rfl) (fun _ _ _ h => h) (by rfl) ?_ ?_
  rotate_left
  · (intro w; go_simp; try with_reducible rfl)
  try simp only [Act.put, List.setIfInBounds_toArray, List.set_cons_zero, List.set_cons_succ]
  refine any_take 2 ?_ rfl (by kernel_rfl) (by kernel_rfl) (by kernel_rfl) (fun _ _ _ h => h) (by rfl) ?_ ?_
  rotate_left
  · (intro w; go_simp; try with_reducible rfl)
  try simp only [Act.put, List.setIfInBounds_toArray, List.set_cons_zero, List.set_cons_succ]
  refine any_take 3 ?_ rfl (by kernel_rfl) (by kernel_rfl) (by kernel_rfl) (fun _ _ _ h => h) (by rfl) ?_ ?_
  rotate_left
  · (intro w; go_simp; try with_reducible rfl)
  try simp only [Act.put, List.setIfInBounds_toArray, List.set_cons_zero, List.set_cons_succ]
  refine any_take 5 ?_ rfl (by kernel_rfl) (by kernel_rfl) (by kernel_rfl) (fun _ _ _ h => h) (by rfl) ?_ ?_
  rotate_left
  · (intro w; go_simp; try with_reducible rfl)
  try simp only [Act.put, List.setIfInBounds_toArray, List.set_cons_zero, List.set_cons_succ]
  refine any_take 9 ?_ rfl (by kernel_rfl) (by kernel_rfl) (by kernel_rfl) (fun _ _ _ h => h) (by rfl) ?_ ?_
  rotate_left
  · (intro w; go_simp; try with_reducible rfl)
  try simp only [Act.put, List.setIfInBounds_toArray, List.set_cons_zero, List.set_cons_succ]
  refine any_take 10 ?_ rfl (by kernel_rfl) (by kernel_rfl) (by kernel_rfl) (fun _ _ _ h => h) (by rfl) ?_ ?_
  rotate_left
  · (intro w; go_simp; try with_reducible rfl)
  try simp only [Act.put, List.setIfInBounds_toArray, List.set_cons_zero, List.set_cons_succ]
  refine any_take 11 ?_ rfl (by kernel_rfl) (by kernel_rfl) (by kernel_rfl) (fun _ _ _ h => h) (by rfl) ?_ ?_
  rotate_left
  · (intro w; go_simp; try with_reducible rfl)
  try simp only [Act.put, List.setIfInBounds_toArray, List.set_cons_zero, List.set_cons_succ]
  refine any_take 13 ?_ rfl (by kernel_rfl) (by kernel_rfl) (by kernel_rfl) (fun _ _ _ h => h) (by rfl) ?_ ?_
  rotate_left
  · (intro w; go_simp; try with_reducible rfl)
  try simp only [Act.put, List.setIfInBounds_toArray, List.set_cons_zero, List.set_cons_succ]
  refine any_two 4 12 rfl rfl (by kernel_rfl) (by rfl) (by rfl) ?_ ?_
  · intro K hK
    go_simp
    refine hK _ _ ?_
    clear hK K
    try simp only [Act.put, List.setIfInBounds_toArray, List.set_cons_zero, List.set_cons_succ]
    refine any_take 6 ?_ rfl (by kernel_rfl) (by kernel_rfl) (by kernel_rfl) (fun _ _ _ h => h) (by rfl) ?_ ?_
    rotate_left
    · (intro w; go_simp; try with_reducible rfl)
    try simp only [Act.put, List.setIfInBounds_toArray, List.set_cons_zero, List.set_cons_succ]
    refine any_take 7 ?_ rfl (by kernel_rfl) (by kernel_rfl) (by kernel_rfl) (fun _ _ _ h => h) (by rfl) ?_ ?_
    rotate_left
    · (intro w; go_simp; try with_reducible rfl)
    try simp only [Act.put, List.setIfInBounds_toArray, List.set_cons_zero, List.set_cons_succ]
    refine any_two 8 12 rfl rfl (by kernel_rfl) (by rfl) (by rfl) ?_ ?_
    · intro K hK
      go_simp
      refine hK _ _ ?_
      clear hK K
      try simp only [Act.put, List.setIfInBounds_toArray, List.set_cons_zero, List.set_cons_succ]
      refine any_one 12 rfl (by kernel_rfl) (by rfl) ?_
      intro K hK
      go_simp
      refine hK _ _ ?_
      clear hK K
      try simp only [Act.put, List.setIfInBounds_toArray, List.set_cons_zero, List.set_cons_succ]
      refine any_take 14 ?_ rfl (by kernel_rfl) (by kernel_rfl) (by kernel_rfl) (fun _ _ _ h => h) (by rfl) ?_ ?_
      rotate_left
      · (intro w; go_simp; try with_reducible rfl)
      try simp only [Act.put, List.setIfInBounds_toArray, List.set_cons_zero, List.set_cons_succ]
      refine any_take 15 ?_ rfl (by kernel_rfl) (by kernel_rfl) (by kernel_rfl) (fun _ _ _ h => h) (by rfl) ?_ ?_
      rotate_left
      · (intro w; go_simp; try with_reducible rfl)
      try simp only [Act.put, List.setIfInBounds_toArray, List.set_cons_zero, List.set_cons_succ]
      refine any_one 16 rfl (by kernel_rfl) (by rfl) ?_
      intro K hK
      go_simp
      refine hK _ _ ?_
      clear hK K
      try simp only [Act.put, List.setIfInBounds_toArray, List.set_cons_zero, List.set_cons_succ]
      refine any_one 17 rfl (by kernel_rfl) (by rfl) ?_
      intro K hK
      go_simp
      refine HP.out.mono ?_
      rintro e w1 hput
      obtain ⟨A1, c1, v1, rfl, hr⟩ := hput
      have HR := hid hr
      clear hr
      refine hK _ _ ?_
      clear hK K
      try simp only [Act.put, List.setIfInBounds_toArray, List.set_cons_zero, List.set_cons_succ]
      refine any_take 18 ?_ rfl (by kernel_rfl) (by kernel_rfl) (by kernel_rfl) (fun _ _ _ h => h) (by rfl) ?_ ?_
      rotate_left
      · (intro w; go_simp; try with_reducible rfl)
      try simp only [Act.put, List.setIfInBounds_toArray, List.set_cons_zero, List.set_cons_succ]
      refine wpAny_done (by kernel_rfl) ?_ _
      go_wp2_with fail
      go_ret
      exact RGivesPut.undrew ⟨A1, c1, v1, rfl, HR.out⟩
    · intro K hK
      go_simp
      refine hK _ _ ?_
      clear hK K
      try simp only [Act.put, List.setIfInBounds_toArray, List.set_cons_zero, List.set_cons_succ]
      refine any_take 14 ?_ rfl (by kernel_rfl) (by kernel_rfl) (by kernel_rfl) (fun _ _ _ h => h) (by rfl) ?_ ?_
      rotate_left
      · (intro w; go_simp; try with_reducible rfl)
      try simp only [Act.put, List.setIfInBounds_toArray, List.set_cons_zero, List.set_cons_succ]
      refine any_take 15 ?_ rfl (by kernel_rfl) (by kernel_rfl) (by kernel_rfl) (fun _ _ _ h => h) (by rfl) ?_ ?_
      rotate_left
      · (intro w; go_simp; try with_reducible rfl)
      try simp only [Act.put, List.setIfInBounds_toArray, List.set_cons_zero, List.set_cons_succ]
      refine any_two 8 16 rfl rfl (by kernel_rfl) (by rfl) (by rfl) ?_ ?_
      · intro K hK
        go_simp
        refine hK _ _ ?_
        clear hK K
        try simp only [Act.put, List.setIfInBounds_toArray, List.set_cons_zero, List.set_cons_succ]
        refine any_one 16 rfl (by kernel_rfl) (by rfl) ?_
        intro K hK
        go_simp
        refine hK _ _ ?_
        clear hK K
        try simp only [Act.put, List.setIfInBounds_toArray, List.set_cons_zero, List.set_cons_succ]
        refine any_one 17 rfl (by kernel_rfl) (by rfl) ?_
        intro K hK
        go_simp
        refine HP.out.mono ?_
        rintro e w1 hput
        obtain ⟨A1, c1, v1, rfl, hr⟩ := hput
        have HR := hid hr
        clear hr
        refine hK _ _ ?_
        clear hK K
        try simp only [Act.put, List.setIfInBounds_toArray, List.set_cons_zero, List.set_cons_succ]
        refine any_take 18 ?_ rfl (by kernel_rfl) (by kernel_rfl) (by kernel_rfl) (fun _ _ _ h => h) (by rfl) ?_ ?_
        rotate_left
        · (intro w; go_simp; try with_reducible rfl)
        try simp only [Act.put, List.setIfInBounds_toArray, List.set_cons_zero, List.set_cons_succ]
        refine wpAny_done (by kernel_rfl) ?_ _
        go_wp2_with fail
        go_ret
        exact RGivesPut.undrew ⟨A1, c1, v1, rfl, HR.out⟩
      · intro K hK
        go_simp
        refine hK _ _ ?_
        clear hK K
        try simp only [Act.put, List.setIfInBounds_toArray, List.set_cons_zero, List.set_cons_succ]
        refine any_one 8 rfl (by kernel_rfl) (by rfl) ?_
        intro K hK
        go_simp
        refine hK _ _ ?_
        clear hK K
        try simp only [Act.put, List.setIfInBounds_toArray, List.set_cons_zero, List.set_cons_succ]
        refine any_one 17 rfl (by kernel_rfl) (by rfl) ?_
        intro K hK
        go_simp
        refine HP.out.mono ?_
        rintro e w1 hput
        obtain ⟨A1, c1, v1, rfl, hr⟩ := hput
        have HR := hid hr
        clear hr
        refine hK _ _ ?_
        clear hK K
        try simp only [Act.put, List.setIfInBounds_toArray, List.set_cons_zero, List.set_cons_succ]
        refine any_take 18 ?_ rfl (by kernel_rfl) (by kernel_rfl) (by kernel_rfl) (fun _ _ _ h => h) (by rfl) ?_ ?_
        rotate_left
        · (intro w; go_simp; try with_reducible rfl)
        try simp only [Act.put, List.setIfInBounds_toArray, List.set_cons_zero, List.set_cons_succ]
        refine wpAny_done (by kernel_rfl) ?_ _
        go_wp2_with fail
        go_ret
        exact RGivesPut.undrew ⟨A1, c1, v1, rfl, HR.out⟩
  · intro K hK
    go_simp
    refine hK _ _ ?_
    clear hK K
    try simp only [Act.put, List.setIfInBounds_toArray, List.set_cons_zero, List.set_cons_succ]
    refine any_take 14 ?_ rfl (by kernel_rfl) (by kernel_rfl) (by kernel_rfl) (fun _ _ _ h => h) (by rfl) ?_ ?_
    rotate_left
    · (intro w; go_simp; try with_reducible rfl)
    try simp only [Act.put, List.setIfInBounds_toArray, List.set_cons_zero, List.set_cons_succ]
    refine any_take 15 ?_ rfl (by kernel_rfl) (by kernel_rfl) (by kernel_rfl) (fun _ _ _ h => h) (by rfl) ?_ ?_
    rotate_left
    · (intro w; go_simp; try with_reducible rfl)
    try simp only [Act.put, List.setIfInBounds_toArray, List.set_cons_zero, List.set_cons_succ]
    refine any_two 4 16 rfl rfl (by kernel_rfl) (by rfl) (by rfl) ?_ ?_
    · intro K hK
      go_simp
      refine hK _ _ ?_
      clear hK K
      try simp only [Act.put, List.setIfInBounds_toArray, List.set_cons_zero, List.set_cons_succ]
      refine any_take 6 ?_ rfl (by kernel_rfl) (by kernel_rfl) (by kernel_rfl) (fun _ _ _ h => h) (by rfl) ?_ ?_
      rotate_left
      · (intro w; go_simp; try with_reducible rfl)
      try simp only [Act.put, List.setIfInBounds_toArray, List.set_cons_zero, List.set_cons_succ]
      refine any_take 7 ?_ rfl (by kernel_rfl) (by kernel_rfl) (by kernel_rfl) (fun _ _ _ h => h) (by rfl) ?_ ?_
      rotate_left
      · (intro w; go_simp; try with_reducible rfl)
      try simp only [Act.put, List.setIfInBounds_toArray, List.set_cons_zero, List.set_cons_succ]
      refine any_two 8 16 rfl rfl (by kernel_rfl) (by rfl) (by rfl) ?_ ?_
      · intro K hK
        go_simp
        refine hK _ _ ?_
        clear hK K
        try simp only [Act.put, List.setIfInBounds_toArray, List.set_cons_zero, List.set_cons_succ]
        refine any_one 16 rfl (by kernel_rfl) (by rfl) ?_
        intro K hK
        go_simp
        refine hK _ _ ?_
        clear hK K
        try simp only [Act.put, List.setIfInBounds_toArray, List.set_cons_zero, List.set_cons_succ]
        refine any_one 17 rfl (by kernel_rfl) (by rfl) ?_
        intro K hK
        go_simp
        refine HP.out.mono ?_
        rintro e w1 hput
        obtain ⟨A1, c1, v1, rfl, hr⟩ := hput
        have HR := hid hr
        clear hr
        refine hK _ _ ?_
        clear hK K
        try simp only [Act.put, List.setIfInBounds_toArray, List.set_cons_zero, List.set_cons_succ]
        refine any_take 18 ?_ rfl (by kernel_rfl) (by kernel_rfl) (by kernel_rfl) (fun _ _ _ h => h) (by rfl) ?_ ?_
        rotate_left
        · (intro w; go_simp; try with_reducible rfl)
        try simp only [Act.put, List.setIfInBounds_toArray, List.set_cons_zero, List.set_cons_succ]
        refine wpAny_done (by kernel_rfl) ?_ _
        go_wp2_with fail
        go_ret
        exact RGivesPut.undrew ⟨A1, c1, v1, rfl, HR.out⟩
      · intro K hK
        go_simp
        refine hK _ _ ?_
        clear hK K
        try simp only [Act.put, List.setIfInBounds_toArray, List.set_cons_zero, List.set_cons_succ]
        refine any_one 8 rfl (by kernel_rfl) (by rfl) ?_
        intro K hK
        go_simp
        refine hK _ _ ?_
        clear hK K
        try simp only [Act.put, List.setIfInBounds_toArray, List.set_cons_zero, List.set_cons_succ]
        refine any_one 17 rfl (by kernel_rfl) (by rfl) ?_
        intro K hK
        go_simp
        refine HP.out.mono ?_
        rintro e w1 hput
        obtain ⟨A1, c1, v1, rfl, hr⟩ := hput
        have HR := hid hr
        clear hr
        refine hK _ _ ?_
        clear hK K
        try simp only [Act.put, List.setIfInBounds_toArray, List.set_cons_zero, List.set_cons_succ]
        refine any_take 18 ?_ rfl (by kernel_rfl) (by kernel_rfl) (by kernel_rfl) (fun _ _ _ h => h) (by rfl) ?_ ?_
        rotate_left
        · (intro w; go_simp; try with_reducible rfl)
        try simp only [Act.put, List.setIfInBounds_toArray, List.set_cons_zero, List.set_cons_succ]
        refine wpAny_done (by kernel_rfl) ?_ _
        go_wp2_with fail
        go_ret
        exact RGivesPut.undrew ⟨A1, c1, v1, rfl, HR.out⟩
    · intro K hK
      go_simp
      refine hK _ _ ?_
      clear hK K
      try simp only [Act.put, List.setIfInBounds_toArray, List.set_cons_zero, List.set_cons_succ]
      refine any_one 4 rfl (by kernel_rfl) (by rfl) ?_
      intro K hK
      go_simp
      refine hK _ _ ?_
      clear hK K
      try simp only [Act.put, List.setIfInBounds_toArray, List.set_cons_zero, List.set_cons_succ]
      refine any_take 6 ?_ rfl (by kernel_rfl) (by kernel_rfl) (by kernel_rfl) (fun _ _ _ h => h) (by rfl) ?_ ?_
      rotate_left
      · (intro w; go_simp; try with_reducible rfl)
      try simp only [Act.put, List.setIfInBounds_toArray, List.set_cons_zero, List.set_cons_succ]
      refine any_take 7 ?_ rfl (by kernel_rfl) (by kernel_rfl) (by kernel_rfl) (fun _ _ _ h => h) (by rfl) ?_ ?_
      rotate_left
      · (intro w; go_simp; try with_reducible rfl)
      try simp only [Act.put, List.setIfInBounds_toArray, List.set_cons_zero, List.set_cons_succ]
      refine any_one 8 rfl (by kernel_rfl) (by rfl) ?_
      intro K hK
      go_simp
      refine hK _ _ ?_
      clear hK K
      try simp only [Act.put, List.setIfInBounds_toArray, List.set_cons_zero, List.set_cons_succ]
      refine any_one 17 rfl (by kernel_rfl) (by rfl) ?_
      intro K hK
      go_simp
      refine HP.out.mono ?_
      rintro e w1 hput
      obtain ⟨A1, c1, v1, rfl, hr⟩ := hput
      have HR := hid hr
      clear hr
      refine hK _ _ ?_
      clear hK K
      try simp only [Act.put, List.setIfInBounds_toArray, List.set_cons_zero, List.set_cons_succ]
      refine any_take 18 ?_ rfl (by kernel_rfl) (by kernel_rfl) (by kernel_rfl) (fun _ _ _ h => h) (by rfl) ?_ ?_
      rotate_left
      · (intro w; go_simp; try with_reducible rfl)
      try simp only [Act.put, List.setIfInBounds_toArray, List.set_cons_zero, List.set_cons_succ]
      refine wpAny_done (by kernel_rfl) ?_ _
      go_wp2_with fail
      go_ret
      exact RGivesPut.undrew ⟨A1, c1, v1, rfl, HR.out⟩

set_option maxRecDepth 100000 in
set_option maxHeartbeats 8000000 in
theorem againFull_any {b : Nat} {v : Value} {its : List It} {lost : Int} (i : Nat) (x : It) (w : World) (hm : RMailIs w b v its lost) (hx : its[i]? = some x) (hl : 4096 ≤ its.length) (hlost : 0 ≤ lost ∧ lost < 9223372036854775807) :
    Calls Try.prog 20 #[.pointer (some ⟨b, 0, none⟩), .int .i64 i] w fun e w' => e = .returned (.bool false) ∧ RMailIs w' b v its (lost + 1) ∧ Eff (· = b) w w' := by
  have hi := (List.getElem?_eq_some_iff.1 hx).1
  obtain ⟨g, cap, rfl, hcap, hcm, x0, x1⟩ := row_item (w := w.drew) hm.row hx
  have d0 : w.drew.cell? ⟨b, 0, none⟩ = some (.slice (some ⟨g, 0, none⟩) its.length cap) := hm.blk.cell 0
  have d0' : w.cell? ⟨b, 0, none⟩ = some (.slice (some ⟨g, 0, none⟩) its.length cap) := hm.blk.cell 0
  have HM := hid hm.drew
  have hp := rPutFull_any x.dst x.A x.bs.length x.c w.drew hm.drew hl hlost
  have HP := hid hp
  have i1 : (i : Int) < its.length := by omega
  unfold maxLen at hcm
  clear hm hx hp hl hlost
  go_enter Try.func20, Try.ntmps20
  go_wp2_with fail
  refine wp_region_any (by kernel_rfl) ?_
  change wpAny _ _ _ _ _ _ _ (World.drew _)
  refine any_take 0 ?_ rfl (by kernel_rfl) (by kernel_rfl) (by kernel_rfl) (fun _ _ _ h => h) (by rfl) ?_ ?_
  rotate_left
  · (intro w; go_simp; try with_reducible rfl)
  try simp only [Act.put, List.setIfInBounds_toArray, List.set_cons_zero, List.set_cons_succ]
  refine any_take 1 ?_ rfl (by kernel_rfl) (by kernel_rfl) (by kernel_rfl) (fun _ _ _ h => h) (by rfl) ?_ ?_
  rotate_left
  · (intro w; go_simp; try with_reducible rfl)
  try simp only [Act.put, List.setIfInBounds_toArray, List.set_cons_zero, List.set_cons_succ]
  refine any_take 2 ?_ rfl (by kernel_rfl) (by kernel_rfl) (by kernel_rfl) (fun _ _ _ h => h) (by rfl) ?_ ?_
  rotate_left
  · (intro w; go_simp; try with_reducible rfl)
  try simp only [Act.put, List.setIfInBounds_toArray, List.set_cons_zero, List.set_cons_succ]
  refine any_take 3 ?_ rfl (by kernel_rfl) (by kernel_rfl) (by kernel_rfl) (fun _ _ _ h => h) (by rfl) ?_ ?_
  rotate_left
  · (intro w; go_simp; try with_reducible rfl)
  try simp only [Act.put, List.setIfInBounds_toArray, List.set_cons_zero, List.set_cons_succ]
  refine any_take 5 ?_ rfl (by kernel_rfl) (by kernel_rfl) (by kernel_rfl) (fun _ _ _ h => h) (by rfl) ?_ ?_
  rotate_left
  · (intro w; go_simp; try with_reducible rfl)
  try simp only [Act.put, List.setIfInBounds_toArray, List.set_cons_zero, List.set_cons_succ]
  refine any_take 9 ?_ rfl (by kernel_rfl) (by kernel_rfl) (by kernel_rfl) (fun _ _ _ h => h) (by rfl) ?_ ?_
  rotate_left
  · (intro w; go_simp; try with_reducible rfl)
  try simp only [Act.put, List.setIfInBounds_toArray, List.set_cons_zero, List.set_cons_succ]
  refine any_take 10 ?_ rfl (by kernel_rfl) (by kernel_rfl) (by kernel_rfl) (fun _ _ _ h => h) (by rfl) ?_ ?_
  rotate_left
  · (intro w; go_simp; try with_reducible rfl)
  try simp only [Act.put, List.setIfInBounds_toArray, List.set_cons_zero, List.set_cons_succ]
  refine any_take 11 ?_ rfl (by kernel_rfl) (by kernel_rfl) (by kernel_rfl) (fun _ _ _ h => h) (by rfl) ?_ ?_
  rotate_left
  · (intro w; go_simp; try with_reducible rfl)
  try simp only [Act.put, List.setIfInBounds_toArray, List.set_cons_zero, List.set_cons_succ]
  refine any_take 13 ?_ rfl (by kernel_rfl) (by kernel_rfl) (by kernel_rfl) (fun _ _ _ h => h) (by rfl) ?_ ?_
  rotate_left
  · (intro w; go_simp; try with_reducible rfl)
  try simp only [Act.put, List.setIfInBounds_toArray, List.set_cons_zero, List.set_cons_succ]
  refine any_two 4 12 rfl rfl (by kernel_rfl) (by rfl) (by rfl) ?_ ?_
  · intro K hK
    go_simp
    refine hK _ _ ?_
    clear hK K
    try simp only [Act.put, List.setIfInBounds_toArray, List.set_cons_zero, List.set_cons_succ]
    refine any_take 6 ?_ rfl (by kernel_rfl) (by kernel_rfl) (by kernel_rfl) (fun _ _ _ h => h) (by rfl) ?_ ?_
    rotate_left
    · (intro w; go_simp; try with_reducible rfl)
    try simp only [Act.put, List.setIfInBounds_toArray, List.set_cons_zero, List.set_cons_succ]
    refine any_take 7 ?_ rfl (by kernel_rfl) (by kernel_rfl) (by kernel_rfl) (fun _ _ _ h => h) (by rfl) ?_ ?_
    rotate_left
    · (intro w; go_simp; try with_reducible rfl)
    try simp only [Act.put, List.setIfInBounds_toArray, List.set_cons_zero, List.set_cons_succ]
    refine any_two 8 12 rfl rfl (by kernel_rfl) (by rfl) (by rfl) ?_ ?_
    · intro K hK
      go_simp
      refine hK _ _ ?_
      clear hK K
      try simp only [Act.put, List.setIfInBounds_toArray, List.set_cons_zero, List.set_cons_succ]
      refine any_one 12 rfl (by kernel_rfl) (by rfl) ?_
      intro K hK
      go_simp
      refine hK _ _ ?_
      clear hK K
      try simp only [Act.put, List.setIfInBounds_toArray, List.set_cons_zero, List.set_cons_succ]
      refine any_take 14 ?_ rfl (by kernel_rfl) (by kernel_rfl) (by kernel_rfl) (fun _ _ _ h => h) (by rfl) ?_ ?_
      rotate_left
      · (intro w; go_simp; try with_reducible rfl)
      try simp only [Act.put, List.setIfInBounds_toArray, List.set_cons_zero, List.set_cons_succ]
      refine any_take 15 ?_ rfl (by kernel_rfl) (by kernel_rfl) (by kernel_rfl) (fun _ _ _ h => h) (by rfl) ?_ ?_
      rotate_left
      · (intro w; go_simp; try with_reducible rfl)
      try simp only [Act.put, List.setIfInBounds_toArray, List.set_cons_zero, List.set_cons_succ]
      refine any_one 16 rfl (by kernel_rfl) (by rfl) ?_
      intro K hK
      go_simp
      refine hK _ _ ?_
      clear hK K
      try simp only [Act.put, List.setIfInBounds_toArray, List.set_cons_zero, List.set_cons_succ]
      refine any_one 17 rfl (by kernel_rfl) (by rfl) ?_
      intro K hK
      go_simp
      refine HP.out.mono ?_
      rintro e w1 ⟨rfl, hr⟩
      have HR := hid hr
      clear hr
      refine hK _ _ ?_
      clear hK K
      try simp only [Act.put, List.setIfInBounds_toArray, List.set_cons_zero, List.set_cons_succ]
      refine any_take 18 ?_ rfl (by kernel_rfl) (by kernel_rfl) (by kernel_rfl) (fun _ _ _ h => h) (by rfl) ?_ ?_
      rotate_left
      · (intro w; go_simp; try with_reducible rfl)
      try simp only [Act.put, List.setIfInBounds_toArray, List.set_cons_zero, List.set_cons_succ]
      refine wpAny_done (by kernel_rfl) ?_ _
      go_wp2_with fail
      go_ret
      exact ⟨rfl, HR.out.1, ⟨HR.out.2.os, HR.out.2.tape, HR.out.2.output, HR.out.2.size, HR.out.2.block⟩⟩
    · intro K hK
      go_simp
      refine hK _ _ ?_
      clear hK K
      try simp only [Act.put, List.setIfInBounds_toArray, List.set_cons_zero, List.set_cons_succ]
      refine any_take 14 ?_ rfl (by kernel_rfl) (by kernel_rfl) (by kernel_rfl) (fun _ _ _ h => h) (by rfl) ?_ ?_
      rotate_left
      · (intro w; go_simp; try with_reducible rfl)
      try simp only [Act.put, List.setIfInBounds_toArray, List.set_cons_zero, List.set_cons_succ]
      refine any_take 15 ?_ rfl (by kernel_rfl) (by kernel_rfl) (by kernel_rfl) (fun _ _ _ h => h) (by rfl) ?_ ?_
      rotate_left
      · (intro w; go_simp; try with_reducible rfl)
      try simp only [Act.put, List.setIfInBounds_toArray, List.set_cons_zero, List.set_cons_succ]
      refine any_two 8 16 rfl rfl (by kernel_rfl) (by rfl) (by rfl) ?_ ?_
      · intro K hK
        go_simp
        refine hK _ _ ?_
        clear hK K
        try simp only [Act.put, List.setIfInBounds_toArray, List.set_cons_zero, List.set_cons_succ]
        refine any_one 16 rfl (by kernel_rfl) (by rfl) ?_
        intro K hK
        go_simp
        refine hK _ _ ?_
        clear hK K
        try simp only [Act.put, List.setIfInBounds_toArray, List.set_cons_zero, List.set_cons_succ]
        refine any_one 17 rfl (by kernel_rfl) (by rfl) ?_
        intro K hK
        go_simp
        refine HP.out.mono ?_
        rintro e w1 ⟨rfl, hr⟩
        have HR := hid hr
        clear hr
        refine hK _ _ ?_
        clear hK K
        try simp only [Act.put, List.setIfInBounds_toArray, List.set_cons_zero, List.set_cons_succ]
        refine any_take 18 ?_ rfl (by kernel_rfl) (by kernel_rfl) (by kernel_rfl) (fun _ _ _ h => h) (by rfl) ?_ ?_
        rotate_left
        · (intro w; go_simp; try with_reducible rfl)
        try simp only [Act.put, List.setIfInBounds_toArray, List.set_cons_zero, List.set_cons_succ]
        refine wpAny_done (by kernel_rfl) ?_ _
        go_wp2_with fail
        go_ret
        exact ⟨rfl, HR.out.1, ⟨HR.out.2.os, HR.out.2.tape, HR.out.2.output, HR.out.2.size, HR.out.2.block⟩⟩
      · intro K hK
        go_simp
        refine hK _ _ ?_
        clear hK K
        try simp only [Act.put, List.setIfInBounds_toArray, List.set_cons_zero, List.set_cons_succ]
        refine any_one 8 rfl (by kernel_rfl) (by rfl) ?_
        intro K hK
        go_simp
        refine hK _ _ ?_
        clear hK K
        try simp only [Act.put, List.setIfInBounds_toArray, List.set_cons_zero, List.set_cons_succ]
        refine any_one 17 rfl (by kernel_rfl) (by rfl) ?_
        intro K hK
        go_simp
        refine HP.out.mono ?_
        rintro e w1 ⟨rfl, hr⟩
        have HR := hid hr
        clear hr
        refine hK _ _ ?_
        clear hK K
        try simp only [Act.put, List.setIfInBounds_toArray, List.set_cons_zero, List.set_cons_succ]
        refine any_take 18 ?_ rfl (by kernel_rfl) (by kernel_rfl) (by kernel_rfl) (fun _ _ _ h => h) (by rfl) ?_ ?_
        rotate_left
        · (intro w; go_simp; try with_reducible rfl)
        try simp only [Act.put, List.setIfInBounds_toArray, List.set_cons_zero, List.set_cons_succ]
        refine wpAny_done (by kernel_rfl) ?_ _
        go_wp2_with fail
        go_ret
        exact ⟨rfl, HR.out.1, ⟨HR.out.2.os, HR.out.2.tape, HR.out.2.output, HR.out.2.size, HR.out.2.block⟩⟩
  · intro K hK
    go_simp
    refine hK _ _ ?_
    clear hK K
    try simp only [Act.put, List.setIfInBounds_toArray, List.set_cons_zero, List.set_cons_succ]
    refine any_take 14 ?_ rfl (by kernel_rfl) (by kernel_rfl) (by kernel_rfl) (fun _ _ _ h => h) (by rfl) ?_ ?_
    rotate_left
    · (intro w; go_simp; try with_reducible rfl)
    try simp only [Act.put, List.setIfInBounds_toArray, List.set_cons_zero, List.set_cons_succ]
    refine any_take 15 ?_ rfl (by kernel_rfl) (by kernel_rfl) (by kernel_rfl) (fun _ _ _ h => h) (by rfl) ?_ ?_
    rotate_left
    · (intro w; go_simp; try with_reducible rfl)
    try simp only [Act.put, List.setIfInBounds_toArray, List.set_cons_zero, List.set_cons_succ]
    refine any_two 4 16 rfl rfl (by kernel_rfl) (by rfl) (by rfl) ?_ ?_
    · intro K hK
      go_simp
      refine hK _ _ ?_
      clear hK K
      try simp only [Act.put, List.setIfInBounds_toArray, List.set_cons_zero, List.set_cons_succ]
      refine any_take 6 ?_ rfl (by kernel_rfl) (by kernel_rfl) (by kernel_rfl) (fun _ _ _ h => h) (by rfl) ?_ ?_
      rotate_left
      · (intro w; go_simp; try with_reducible rfl)
      try simp only [Act.put, List.setIfInBounds_toArray, List.set_cons_zero, List.set_cons_succ]
      refine any_take 7 ?_ rfl (by kernel_rfl) (by kernel_rfl) (by kernel_rfl) (fun _ _ _ h => h) (by rfl) ?_ ?_
      rotate_left
      · (intro w; go_simp; try with_reducible rfl)
      try simp only [Act.put, List.setIfInBounds_toArray, List.set_cons_zero, List.set_cons_succ]
      refine any_two 8 16 rfl rfl (by kernel_rfl) (by rfl) (by rfl) ?_ ?_
      · intro K hK
        go_simp
        refine hK _ _ ?_
        clear hK K
        try simp only [Act.put, List.setIfInBounds_toArray, List.set_cons_zero, List.set_cons_succ]
        refine any_one 16 rfl (by kernel_rfl) (by rfl) ?_
        intro K hK
        go_simp
        refine hK _ _ ?_
        clear hK K
        try simp only [Act.put, List.setIfInBounds_toArray, List.set_cons_zero, List.set_cons_succ]
        refine any_one 17 rfl (by kernel_rfl) (by rfl) ?_
        intro K hK
        go_simp
        refine HP.out.mono ?_
        rintro e w1 ⟨rfl, hr⟩
        have HR := hid hr
        clear hr
        refine hK _ _ ?_
        clear hK K
        try simp only [Act.put, List.setIfInBounds_toArray, List.set_cons_zero, List.set_cons_succ]
        refine any_take 18 ?_ rfl (by kernel_rfl) (by kernel_rfl) (by kernel_rfl) (fun _ _ _ h => h) (by rfl) ?_ ?_
        rotate_left
        · (intro w; go_simp; try with_reducible rfl)
        try simp only [Act.put, List.setIfInBounds_toArray, List.set_cons_zero, List.set_cons_succ]
        refine wpAny_done (by kernel_rfl) ?_ _
        go_wp2_with fail
        go_ret
        exact ⟨rfl, HR.out.1, ⟨HR.out.2.os, HR.out.2.tape, HR.out.2.output, HR.out.2.size, HR.out.2.block⟩⟩
      · intro K hK
        go_simp
        refine hK _ _ ?_
        clear hK K
        try simp only [Act.put, List.setIfInBounds_toArray, List.set_cons_zero, List.set_cons_succ]
        refine any_one 8 rfl (by kernel_rfl) (by rfl) ?_
        intro K hK
        go_simp
        refine hK _ _ ?_
        clear hK K
        try simp only [Act.put, List.setIfInBounds_toArray, List.set_cons_zero, List.set_cons_succ]
        refine any_one 17 rfl (by kernel_rfl) (by rfl) ?_
        intro K hK
        go_simp
        refine HP.out.mono ?_
        rintro e w1 ⟨rfl, hr⟩
        have HR := hid hr
        clear hr
        refine hK _ _ ?_
        clear hK K
        try simp only [Act.put, List.setIfInBounds_toArray, List.set_cons_zero, List.set_cons_succ]
        refine any_take 18 ?_ rfl (by kernel_rfl) (by kernel_rfl) (by kernel_rfl) (fun _ _ _ h => h) (by rfl) ?_ ?_
        rotate_left
        · (intro w; go_simp; try with_reducible rfl)
        try simp only [Act.put, List.setIfInBounds_toArray, List.set_cons_zero, List.set_cons_succ]
        refine wpAny_done (by kernel_rfl) ?_ _
        go_wp2_with fail
        go_ret
        exact ⟨rfl, HR.out.1, ⟨HR.out.2.os, HR.out.2.tape, HR.out.2.output, HR.out.2.size, HR.out.2.block⟩⟩
    · intro K hK
      go_simp
      refine hK _ _ ?_
      clear hK K
      try simp only [Act.put, List.setIfInBounds_toArray, List.set_cons_zero, List.set_cons_succ]
      refine any_one 4 rfl (by kernel_rfl) (by rfl) ?_
      intro K hK
      go_simp
      refine hK _ _ ?_
      clear hK K
      try simp only [Act.put, List.setIfInBounds_toArray, List.set_cons_zero, List.set_cons_succ]
      refine any_take 6 ?_ rfl (by kernel_rfl) (by kernel_rfl) (by kernel_rfl) (fun _ _ _ h => h) (by rfl) ?_ ?_
      rotate_left
      · (intro w; go_simp; try with_reducible rfl)
      try simp only [Act.put, List.setIfInBounds_toArray, List.set_cons_zero, List.set_cons_succ]
      refine any_take 7 ?_ rfl (by kernel_rfl) (by kernel_rfl) (by kernel_rfl) (fun _ _ _ h => h) (by rfl) ?_ ?_
      rotate_left
      · (intro w; go_simp; try with_reducible rfl)
      try simp only [Act.put, List.setIfInBounds_toArray, List.set_cons_zero, List.set_cons_succ]
      refine any_one 8 rfl (by kernel_rfl) (by rfl) ?_
      intro K hK
      go_simp
      refine hK _ _ ?_
      clear hK K
      try simp only [Act.put, List.setIfInBounds_toArray, List.set_cons_zero, List.set_cons_succ]
      refine any_one 17 rfl (by kernel_rfl) (by rfl) ?_
      intro K hK
      go_simp
      refine HP.out.mono ?_
      rintro e w1 ⟨rfl, hr⟩
      have HR := hid hr
      clear hr
      refine hK _ _ ?_
      clear hK K
      try simp only [Act.put, List.setIfInBounds_toArray, List.set_cons_zero, List.set_cons_succ]
      refine any_take 18 ?_ rfl (by kernel_rfl) (by kernel_rfl) (by kernel_rfl) (fun _ _ _ h => h) (by rfl) ?_ ?_
      rotate_left
      · (intro w; go_simp; try with_reducible rfl)
      try simp only [Act.put, List.setIfInBounds_toArray, List.set_cons_zero, List.set_cons_succ]
      refine wpAny_done (by kernel_rfl) ?_ _
      go_wp2_with fail
      go_ret
      exact ⟨rfl, HR.out.1, ⟨HR.out.2.os, HR.out.2.tape, HR.out.2.output, HR.out.2.size, HR.out.2.block⟩⟩
end Go.Proofs.Ytnhfnklbeifbhaa
