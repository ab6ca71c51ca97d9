/- Frames: what ring reads. -/
import Derived.Test.YtogcbiooddodlaaDoorFrameReadPure
import Derived.Test.YtogcbiooddodlaaDoorFrameRead
namespace Go.Proofs.YtogcbiooddodlaaDoor
open Go.RowKit
set_option linter.unusedSimpArgs false

theorem Blk.type_ne {w : World} {b b' : Nat} {cs cs' : List Value} {E E' : TypeId} (h : Blk w b cs E) (h' : Blk w b' cs' E') (hne : E ≠ E') : b ≠ b' := by
  rintro rfl
  unfold Blk at h h'
  rw [h] at h'
  injection h' with h'
  injection h' with _ h'
  exact hne h'
theorem row_type_ne {w : World} {b base n s : Nat} {cs xs : List Value} {E E' : TypeId} {v : Value} (h : Blk w b cs E) (ho : w.ownsRow base E' s v n xs) (hne : E ≠ E') : v.ownBlock ≠ some b := by
  intro hb
  rcases ho.2 with ⟨rfl, _⟩ | ⟨g, cap, cur, rfl, _, hg, _⟩
  · cases hb
  · obtain rfl : g = b := Option.some.inj hb
    unfold Blk at h
    rw [h] at hg
    injection hg with hg
    injection hg with _ hg
    exact hne hg
/-- A reader goes on where other blocks are written. -/
theorem RdrL.eff {ad : Int → Addr} {S : Nat → Prop} {w w' : World} {lo r p : Nat} {bs : List Int} {o : Option (Int × Nat)} (h : RdrL ad w lo r bs p o) (he : Eff S w w') (hS : ∀ k, lo ≤ k → k ≤ r → ¬ S k) (hA : ∀ B cs, Blk w B cs 108 → ¬ S B) (hlo : lo ≤ r) : RdrL ad w' lo r bs p o := by
  obtain ⟨v, h1, h2⟩ := h
  refine ⟨v, h1.eff he hS hlo, ?_⟩
  cases o with
  | none => exact h2
  | some e =>
    obtain ⟨c, q⟩ := e
    obtain ⟨B, hv, hb, hne⟩ := h2
    exact ⟨B, hv, he.blk hb (hA B _ hb), hne⟩
theorem RdrL.on {ad : Int → Addr} {w w' : World} {lo r p : Nat} {bs : List Int} {o : Option (Int × Nat)} (h : RdrL ad w lo r bs p o) (hb : Below w.heap.size w w') (hlo : lo ≤ r) : RdrL ad w' lo r bs p o := h.eff (Eff.of_below (S := fun _ => False) hb) (fun _ _ _ h => h) (fun _ _ _ h => h) hlo
/-- Between two writes: the reader's state, and what else was turned. -/
structure RdSt (ad : Int → Addr) (W w : World) (lo r : Nat) (bs : List Int) (s : RS) : Prop where
  rd : RdrL ad w lo r bs s.1 s.2
  below : Below W.heap.size W w
def GivesNumS (ad : Int → Addr) (W w : World) (lo r : Nat) (bs : List Int) (a : Int × RS) (e : Ending) (w' : World) : Prop := e = .returned (.int .i64 a.1) ∧ RdSt ad W w' lo r bs a.2 ∧ Eff (· = r) w w'
theorem num_step {ad : Int → Addr} {W w : World} {lo r : Nat} {bs : List Int} {s : RS} (low high : Int) (hE : Errs3 ad W) (hrW : W.heap.size ≤ r) (h : RdSt ad W w lo r bs s) :
    Calls Tryd.prog 19 #[.pointer (some ⟨r, 0, none⟩), .int .i64 low, .int .i64 high] w (GivesNumS ad W w lo r bs (numS bs low high s)) := by
  refine (num_any low high w (hE.below h.below) h.rd).mono ?_
  rintro e w' ⟨he, hR, hx⟩
  exact ⟨he, ⟨hR, hx.below h.below h.below.size (fun i hi q => by omega)⟩, hx⟩
theorem numS_range {bs : List Int} {low high : Int} {s : RS} (h1 : low ≤ 0) (h2 : 0 ≤ high) : low ≤ (numS bs low high s).1 ∧ (numS bs low high s).1 ≤ high := by
  obtain ⟨p, o⟩ := s
  unfold numS
  cases o with
  | some e => exact ⟨h1, h2⟩
  | none =>
    simp only [numR]
    cases rd (bs.drop p) 0 0 with
    | ends => exact ⟨h1, h2⟩
    | shape => exact ⟨h1, h2⟩
    | num n k =>
      rw [numAt]
      split
      · rename_i h; exact h
      · exact ⟨h1, h2⟩
theorem memsR_len (bs : List Int) (k : Nat) (s : RS) : (memsR bs k s).1.length = k := by
  induction k with
  | zero => rfl
  | succ k ih => rw [memsR, List.length_append, ih]; rfl
theorem bidsR_len (bs : List Int) (k : Nat) (s : RS) : (bidsR bs k s).1.length = k := by
  induction k with
  | zero => rfl
  | succ k ih => rw [bidsR, List.length_append, ih]; rfl
theorem entsR_len (bs : List Int) (n : Int) (k : Nat) (s : RS) : (entsR bs n k s).1.length ≤ k := by
  induction k with
  | zero => exact Nat.le_refl _
  | succ k ih =>
    rw [entsR]
    split
    · rw [List.length_append]; simp only [List.length_cons, List.length_nil]; omega
    · omega
theorem entsR_stuck {bs : List Int} {n : Int} {k : Nat} {s : RS} (h : (entsR bs n k s).2.2 ≠ none) : ∀ m, k ≤ m → entsR bs n m s = entsR bs n k s := by
  intro m hm
  induction m with
  | zero => rw [show k = 0 by omega]
  | succ m ih =>
    by_cases hk : k = m + 1
    · rw [hk]
    · rw [entsR, ih (by omega), if_neg h]
/-- A number more, in a row of its own. -/
theorem wp_append_int2 {o : Oper} {a : Act} {K : Act → World → Prop} {Q : Exit → Act → World → Prop} {base : Nat} {w w0 : World} {v : Value} {xs : List Int} (s x : Operand)
    (ho : o.op = .call { callee := .builtin .append, args := #[s, x], argTypes := #[46, 46] }) (hs : a.eval s = v) (hown : w0.ownsRow base 3 1 v xs.length (xs.map (Value.int .i64)))
    (y : Int) (B : Nat) (hB : w0.heap.size = B) (hx : a.eval x = .slice (some ⟨B, 0, none⟩) 1 1) (hw : w = w0.alloc (.cells #[.int .i64 y] 3)) (hl : xs.length ≤ 2000000) (hbase : base ≤ w0.heap.size)
    (h : ∀ A c w', w'.ownsRow base 3 1 (.slice A (xs.length + 1) c) (xs ++ [y]).length ((xs ++ [y]).map (Value.int .i64)) → Eff (fun k => v.ownBlock = some k) w0 w' → K (a.put o.dst (.slice A (xs.length + 1) c)) w') : o.wp Tryd.prog a w K Q := by
  obtain ⟨ti, hi, hz, hsz, hby⟩ := info_parts rowInts15.info
  have hcell : ∀ j u, [Value.int .i64 y][j]? = some u → w.cell? ((⟨B, 0, none⟩ : Addr).add j) = some u := by
    intro j u hu
    rw [add_at, Nat.zero_add, hw, ← hB, (Blk.new w0 [Value.int .i64 y] 3).cell, hu]
  have hown1 : w.ownsRow base 3 1 v xs.length (xs.map (Value.int .i64)) := by rw [hw]; exact hown.alloc _
  refine wp_append_lies w s x 46 ho base 3 ti _ 1 8 rowInts15.und hi hz hsz hby rfl (by decide) v xs.length _ hs hown1 ⟨B, 0, none⟩ 1 1 [Value.int .i64 y] hx rfl hcell (ints_oneCell .i64 [y]) (by omega) (by unfold maxLen; omega) (by omega) (by rw [hw]; exact Nat.le_trans hbase (by simp)) _ rfl ?_
  intro g cap w' h1 hg hgo _
  refine h _ _ w' (by simpa using h1) ?_
  rw [hw] at hg
  exact ((Eff.refl _ w0).alloc _).grown hg (fun k hk _ => hk)
/-- A bid more, in a row of its own. -/
theorem wp_append_bid {o : Oper} {a : Act} {K : Act → World → Prop} {Q : Exit → Act → World → Prop} {base : Nat} {w w0 : World} {v : Value} {xs : List (Int × Int)} (s x : Operand)
    (ho : o.op = .call { callee := .builtin .append, args := #[s, x], argTypes := #[60, 60] }) (hs : a.eval s = v) (hown : w0.ownsRow base 59 2 v xs.length (xs.flatMap bidC))
    (y : Int × Int) (B : Nat) (hB : w0.heap.size = B) (hx : a.eval x = .slice (some ⟨B, 0, none⟩) 1 1) (hw : w = w0.alloc (.cells #[.int .i64 y.1, .int .i64 y.2] 59)) (hl : xs.length ≤ 2000000) (hbase : base ≤ w0.heap.size)
    (h : ∀ A c w', w'.ownsRow base 59 2 (.slice A (xs.length + 1) c) (xs ++ [y]).length ((xs ++ [y]).flatMap bidC) → Eff (fun k => v.ownBlock = some k) w0 w' → K (a.put o.dst (.slice A (xs.length + 1) c)) w') : o.wp Tryd.prog a w K Q := by
  obtain ⟨ti, hi, hz, hsz, hby⟩ := info_parts rowBids.info
  have hcell : ∀ j u, (bidC y)[j]? = some u → w.cell? ((⟨B, 0, none⟩ : Addr).add j) = some u := by
    intro j u hu
    rw [add_at, Nat.zero_add, hw, ← hB]
    exact ((Blk.new w0 (bidC y) 59).cell j).trans hu
  have hown1 : w.ownsRow base 59 2 v xs.length (xs.flatMap bidC) := by rw [hw]; exact hown.alloc _
  refine wp_append_lies w s x 60 ho base 59 ti _ 2 16 rowBids.und hi hz hsz hby rfl (by decide) v xs.length _ hs hown1 ⟨B, 0, none⟩ 1 1 (bidC y) hx rfl hcell (List.all_eq_true.1 (by rfl)) (by omega) (by unfold maxLen; omega) (by omega) (by rw [hw]; exact Nat.le_trans hbase (by simp)) _ rfl ?_
  intro g cap w' h1 hg hgo _
  refine h _ _ w' (by simpa using h1) ?_
  rw [hw] at hg
  exact ((Eff.refl _ w0).alloc _).grown hg (fun k hk _ => hk)
end Go.Proofs.YtogcbiooddodlaaDoor
