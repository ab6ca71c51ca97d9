/- Frames: entries in a row of their own; Bytes of what may not be. -/
import Derived.Test.YtogcbiooddodlaaDoorFrameValid
import Derived.Deep.AppendLies
namespace Go.Proofs.YtogcbiooddodlaaDoor
open Go.RowKit
set_option linter.unusedSimpArgs false

theorem zero_entry (w : World) : (zeroValue 62).run Tryd.prog w = .ok (.agg #[.int .i64 0, .int .i64 0, .int .i64 0, .slice none 0 0, .int .i64 0]) w := by kernel_rfl
theorem rowEnts : RowT Tryd.prog 51 62 (.agg #[.int .i64 0, .int .i64 0, .int .i64 0, .slice none 0 0, .int .i64 0]) 5 56 := ⟨Tryd.underlying51, by kernel_rfl, rfl, by decide⟩
theorem rowBids : RowT Tryd.prog 60 59 (.agg #[.int .i64 0, .int .i64 0]) 2 16 := ⟨Tryd.underlying60, by kernel_rfl, rfl, by decide⟩
/-- Entries in a row that is owned, their bids beside it. -/
structure EntS (base : Nat) (w : World) (v : Value) (es : List EntL) : Prop where
  row : w.ownsRow base 62 5 v es.length (es.flatMap EntL.cells)
  here : ∀ e ∈ es, e.here w
  off : ∀ e ∈ es, ∀ a, e.A = some a → base ≤ a.block ∧ a.block < w.heap.size ∧ v.ownBlock ≠ some a.block
theorem EntS.nil (base : Nat) (w : World) : EntS base w (.slice none 0 0) [] := ⟨World.ownsRow_nil _ _ _ _, (fun _ h => by cases h), (fun _ h => by cases h)⟩
theorem EntS.eff {base : Nat} {S : Nat → Prop} {w w' : World} {v : Value} {es : List EntL} (h : EntS base w v es) (he : Eff S w w') (hS : ∀ k, base ≤ k → ¬ S k) : EntS base w' v es :=
  ⟨he.row h.row (fun k hk => hS k ((h.row.lt k hk).1)), fun e hm => Sl.eff (h.here e hm) he (fun a ha => hS a.block (h.off e hm a ha).1), fun e hm a ha => by
    obtain ⟨h1, h2, h3⟩ := h.off e hm a ha
    exact ⟨h1, Nat.lt_of_lt_of_le h2 he.size, h3⟩⟩
theorem EntS.sl {base : Nat} {w : World} {v : Value} {es : List EntL} (h : EntS base w v es) : ∃ A c, v = .slice A es.length c ∧ Sl w A (es.flatMap EntL.cells) := by
  obtain ⟨A, c, rfl, _, _, hs⟩ := Sl.row h.row
  exact ⟨A, c, rfl, hs⟩
theorem EntS.more {base g cap : Nat} {w w1 w' : World} {v : Value} {es : List EntL} {e : EntL} (h : EntS base w v es) (hw : w1 = w.alloc (.cells e.cells.toArray 62)) (hrow : w'.ownsRow base 62 5 (.slice (some ⟨g, 0, none⟩) (es.length + 1) cap) (es.length + 1) (es.flatMap EntL.cells ++ e.cells))
    (hg : w1.grownBy w' v.ownBlock) (hgo : v.ownBlock = some g ∨ g = w1.heap.size) (he : e.here w) (ho : ∀ a, e.A = some a → base ≤ a.block ∧ a.block < w.heap.size ∧ v.ownBlock ≠ some a.block) :
    EntS base w' (.slice (some ⟨g, 0, none⟩) (es.length + 1) cap) (es ++ [e]) ∧ Eff (fun k => v.ownBlock = some k) w w' := by
  subst hw
  have he1 : Eff (fun k => v.ownBlock = some k) w w' := ((Eff.refl _ w).alloc _).grown hg (fun k hk _ => hk)
  have hsz : (w.alloc (.cells e.cells.toArray 62)).heap.size = w.heap.size + 1 := by simp
  have key : ∀ x : EntL, x.here w → (∀ a, x.A = some a → base ≤ a.block ∧ a.block < w.heap.size ∧ v.ownBlock ≠ some a.block) → x.here w' ∧ ∀ a, x.A = some a → base ≤ a.block ∧ a.block < w'.heap.size ∧ (Value.slice (some ⟨g, 0, none⟩) (es.length + 1) cap).ownBlock ≠ some a.block := by
    intro x hx hox
    refine ⟨Sl.eff hx he1 (fun a ha => (hox a ha).2.2), fun a ha => ?_⟩
    obtain ⟨h1, h2, h3⟩ := hox a ha
    refine ⟨h1, Nat.lt_of_lt_of_le h2 he1.size, fun q => ?_⟩
    have q : g = a.block := Option.some.inj q
    rcases hgo with h4 | h4
    · exact h3 (by rw [h4, q])
    · rw [hsz] at h4; omega
  refine ⟨⟨by simpa using hrow, fun x hx => ?_, fun x hx => ?_⟩, he1⟩
  · rcases List.mem_append.1 hx with hx | hx
    · exact (key x (h.here x hx) (h.off x hx)).1
    · rw [List.mem_singleton] at hx; subst hx
      exact (key x he ho).1
  · rcases List.mem_append.1 hx with hx | hx
    · exact (key x (h.here x hx) (h.off x hx)).2
    · rw [List.mem_singleton] at hx; subst hx
      exact (key x he ho).2
theorem wpList_append_ent {ops : Array Oper} {rest : List Oper} {o : Oper} {a : Act} {Q : Exit → Act → World → Prop} {base : Nat} {w w0 : World} {v : Value} {es : List EntL} (hgd : o.guard = none) (s x : Operand)
    (ho : o.op = .call { callee := .builtin .append, args := #[s, x], argTypes := #[51, 51] }) (hs : a.eval s = v) (hown : EntS base w0 v es)
    (e : EntL) (B : Nat) (hB : w0.heap.size = B) (hx : a.eval x = .slice (some ⟨B, 0, none⟩) 1 1) (hw : w = w0.alloc (.cells e.cells.toArray 62)) (hl : es.length ≤ 100000) (hbase : base ≤ w0.heap.size) (he : e.here w0)
    (hoff : ∀ a, e.A = some a → base ≤ a.block ∧ a.block < w0.heap.size ∧ v.ownBlock ≠ some a.block)
    (h : ∀ A c w', EntS base w' (.slice A (es.length + 1) c) (es ++ [e]) → Eff (fun k => v.ownBlock = some k) w0 w' → wpList Tryd.prog ops Q rest (a.put o.dst (.slice A (es.length + 1) c)) w') : wpList Tryd.prog ops Q (o :: rest) a w := by
  obtain ⟨ti, hi, hz, hsz, hby⟩ := info_parts rowEnts.info
  have hcell : ∀ j u, e.cells[j]? = some u → w.cell? ((⟨B, 0, none⟩ : Addr).add j) = some u := by
    intro j u hu
    rw [add_at, Nat.zero_add, hw, ← hB, (Blk.new w0 e.cells 62).cell, hu]
  have hown1 : w.ownsRow base 62 5 v es.length (es.flatMap EntL.cells) := by rw [hw]; exact hown.row.alloc _
  refine wpList_append_lies w hgd s x 51 ho base 62 ti _ 5 56 rowEnts.und hi hz hsz hby rfl (by decide) v es.length _ hs hown1 ⟨B, 0, none⟩ 1 1 e.cells hx rfl hcell (List.all_eq_true.1 (by rfl)) (by omega) (by unfold maxLen; omega) (by omega) (by rw [hw]; exact Nat.le_trans hbase (by simp)) _ rfl ?_
  intro g cap w' h1 hg hgo _
  obtain ⟨q1, q2⟩ := hown.more hw h1 hg hgo he hoff
  exact h _ _ _ q1 q2
set_option maxRecDepth 100000 in
set_option maxHeartbeats 4000000 in
theorem bytesBadF_any {ad : Int → Addr} (kind fr tt life seen : Int) (out : Bool) (count founder hop : Int) (MA : Option Addr) (mc : Nat) (ms : List Int) (EA : Option Addr) (ec : Nat) (es : List EntL) (w : World) (hE : ErrsV ad w) (hR : RingIs w MA ms EA es) (E : Int) (hEE : frameE kind fr tt life seen out count founder hop ms es = E) (hne : E ≠ 0) :
    Calls Tryd.prog 33 #[.agg (frameV kind fr tt life seen out count founder hop MA ms.length mc EA es.length ec)] w fun e w' => e = .returned (.tuple #[.slice none 0 0, errV ad E]) ∧ Below w.heap.size w w' := by
  have hb1 : Below w.heap.size w (w.alloc (.cells (frameV kind fr tt life seen out count founder hop MA ms.length mc EA es.length ec) 64)) := (Below.refl _ _).alloc (Nat.le_refl _) _
  have hv := validF_any (ad := ad) kind fr tt life seen out count founder hop MA mc ms EA ec es _ (hE.below hb1) (hR.on hb1)
  rw [hEE, GivesErrB_ne hne] at hv
  rw [errV_ne ad hne]
  clear hEE hne hE hR
  go_enter Tryd.func33, Tryd.ntmps33
  go_wp2_with fail
  refine hv.mono ?_
  rintro e w2 ⟨rfl, hb2⟩
  have hb3 := hb1.trans (hb2.mono hb1.size)
  clear hv
  go_wp2_with fail
  go_ret2
  exact ⟨rfl, hb3⟩
end Go.Proofs.YtogcbiooddodlaaDoor
