/- Small laws on blocks of cells, on what a call may turn, and on rows of structs in a block: for the walks of this seat. No program in sight. -/
import Derived.WalkKit
import Derived.WalkSpells
import Derived.WalkLawsBesides
import Derived.Deep.LoopGhost
import Derived.BigQuiet
import Derived.Deep.QuietTactic
import Derived.Deep.DeepCutAuto
namespace Go.Proofs.YtogcbiooddodlaaDoor
open Go.RowKit

theorem hid {p : Prop} (h : p) : Hid p := h

/-- Block b holds just these cells, none of them frozen. -/
def Blk (w : World) (b : Nat) (cs : List Value) (E : TypeId) : Prop := w.heap[b]? = some (.cells cs.toArray E (0, 0))

section
variable {w w' : World} {b b' : Nat} {cs : List Value} {E : TypeId}

theorem Blk.cell (h : Blk w b cs E) (o : Nat) : w.cell? ⟨b, o, none⟩ = cs[o]? := by
  unfold Blk at h
  simp [World.cell?, h]
theorem Blk.cell_some (h : Blk w b cs E) {o : Nat} {v : Value} (hv : cs[o]? = some v) : w.cell? ⟨b, o, none⟩ = some v := by rw [h.cell, hv]
theorem Blk.frozen (h : Blk w b cs E) (o : Nat) : w.frozen? ⟨b, o, none⟩ = false := by
  unfold Blk at h
  simp [World.frozen?, h]
theorem Blk.lt (h : Blk w b cs E) : b < w.heap.size := by
  unfold Blk at h
  exact (Array.getElem?_eq_some_iff.1 h).1
theorem Blk.set (h : Blk w b cs E) (o : Nat) (v : Value) : Blk (w.setCell ⟨b, o, none⟩ v) b (cs.set o v) E := by
  unfold Blk at *
  simp only [World.setCell, Array.getElem?_modify, if_true, h, Option.map_some]
  simp
theorem Blk.set_ne (h : Blk w b cs E) (hne : b ≠ b') (o : Nat) (s : Option Nat) (v : Value) : Blk (w.setCell ⟨b', o, s⟩ v) b cs E := by
  unfold Blk at *
  rw [← h]
  exact Below.heap_setCell w ⟨b', o, s⟩ v b hne
theorem Blk.alloc (h : Blk w b cs E) (o : Obj) : Blk (w.alloc o) b cs E := by
  have := h.lt
  unfold Blk at *
  rw [← h]
  exact Below.heap_alloc w o b this
theorem Blk.drew (h : Blk w b cs E) : Blk w.drew b cs E := h
theorem Blk.drewN (h : Blk w b cs E) (n : Nat) : Blk (w.drewN n) b cs E := h
theorem Blk.new (w : World) (cs : List Value) (E : TypeId) : Blk (w.alloc (.cells cs.toArray E)) w.heap.size cs E := heap_alloc_new w _
end

/-- What a call may turn: the blocks in S, of those that were there; new ones may have come. -/
structure Eff (S : Nat → Prop) (w w' : World) : Prop where
  os : w'.os = w.os
  tape : w'.tape = w.tape
  output : w'.output = w.output
  size : w.heap.size ≤ w'.heap.size
  block : ∀ k, k < w.heap.size → ¬ S k → w'.heap[k]? = w.heap[k]?

section
variable {S S' : Nat → Prop} {w w' w'' : World}
theorem Eff.refl (S : Nat → Prop) (w : World) : Eff S w w := ⟨rfl, rfl, rfl, Nat.le_refl _, fun _ _ _ => rfl⟩
theorem Eff.trans (h : Eff S w w') (k : Eff S w' w'') : Eff S w w'' :=
  ⟨k.os.trans h.os, k.tape.trans h.tape, k.output.trans h.output, Nat.le_trans h.size k.size, fun i hi hs => (k.block i (Nat.lt_of_lt_of_le hi h.size) hs).trans (h.block i hi hs)⟩
/-- What a call behind it turned, of what was there before, lies in S. -/
theorem Eff.step (h : Eff S w w') (k : Eff S' w' w'') (hs : ∀ i, i < w.heap.size → S' i → S i) : Eff S w w'' :=
  ⟨k.os.trans h.os, k.tape.trans h.tape, k.output.trans h.output, Nat.le_trans h.size k.size,
    fun i hi hn => (k.block i (Nat.lt_of_lt_of_le hi h.size) (fun x => hn (hs i hi x))).trans (h.block i hi hn)⟩
theorem Eff.mono (h : Eff S w w') (hs : ∀ i, i < w.heap.size → S i → S' i) : Eff S' w w' :=
  ⟨h.os, h.tape, h.output, h.size, fun i hi hn => h.block i hi (fun x => hn (hs i hi x))⟩
theorem Eff.blk (h : Eff S w w') {b : Nat} {cs : List Value} {E : TypeId} (hb : Blk w b cs E) (hn : ¬ S b) : Blk w' b cs E := by
  have := h.block b hb.lt hn
  unfold Blk at *
  rw [this, hb]
theorem Eff.cell (h : Eff S w w') {b o : Nat} (hb : b < w.heap.size) (hn : ¬ S b) : w'.cell? ⟨b, o, none⟩ = w.cell? ⟨b, o, none⟩ :=
  World.cell?_of_block (a := ⟨b, o, none⟩) (h.block b hb hn)
theorem Eff.frozen (h : Eff S w w') {b o : Nat} (hb : b < w.heap.size) (hn : ¬ S b) : w'.frozen? ⟨b, o, none⟩ = w.frozen? ⟨b, o, none⟩ :=
  World.frozen?_of_block (a := ⟨b, o, none⟩) (h.block b hb hn)
theorem Eff.alloc (h : Eff S w w') (o : Obj) : Eff S w (w'.alloc o) :=
  ⟨h.os, h.tape, h.output, Nat.le_trans h.size (by simp), fun k hk hn => (Below.heap_alloc _ _ _ (Nat.lt_of_lt_of_le hk h.size)).trans (h.block k hk hn)⟩
theorem Eff.setCell (h : Eff S w w') {p : Addr} (hp : p.block < w.heap.size → S p.block) (u : Value) : Eff S w (w'.setCell p u) :=
  ⟨h.os, h.tape, h.output, by have := h.size; simpa using this, fun k hk hn => (Below.heap_setCell _ _ _ _ (fun e => hn (by subst e; exact hp hk))).trans (h.block k hk hn)⟩
theorem Eff.one (b : Nat) (w : World) : Eff (· = b) w w := Eff.refl _ w
theorem Eff.set {b : Nat} (h : Eff (· = b) w w') (o : Nat) (u : Value) : Eff (· = b) w (w'.setCell ⟨b, o, none⟩ u) := h.setCell (fun _ => rfl) u
theorem Eff.drew (h : Eff S w w') : Eff S w w'.drew := ⟨h.os, h.tape, h.output, h.size, h.block⟩
theorem Eff.drewN (h : Eff S w w') (n : Nat) : Eff S w (w'.drewN n) := ⟨h.os, h.tape, h.output, h.size, h.block⟩
theorem Eff.grown (h : Eff S w w') {row : Option Nat} (hg : w'.grownBy w'' row) (hr : ∀ k, row = some k → k < w.heap.size → S k) : Eff S w w'' :=
  ⟨hg.os.trans h.os, hg.tape.trans h.tape, hg.output.trans h.output, Nat.le_trans h.size hg.size,
    fun k hk hn => (hg.block k (Nat.lt_of_lt_of_le hk h.size) (fun e => hn (hr k e.symm hk))).trans (h.block k hk hn)⟩
theorem Eff.below {B : Nat} {w0 : World} (h : Eff S w w') (hb : Below B w0 w) (hB : B ≤ w.heap.size) (hs : ∀ i, i < B → ¬ S i) : Below B w0 w' :=
  hb.trans ⟨h.os, h.tape, h.output, h.size, fun k hk => h.block k (by omega) (hs k hk)⟩
theorem Eff.of_below (h : Below w.heap.size w w') : Eff S w w' := ⟨h.os, h.tape, h.output, h.size, fun k hk _ => h.block k hk⟩
theorem Eff.row {base : Nat} {e : TypeId} {size : Nat} {v : Value} {n : Nat} {xs : List Value} (h : Eff S w w') (ho : w.ownsRow base e size v n xs) (hn : ∀ k, v.ownBlock = some k → ¬ S k) : w'.ownsRow base e size v n xs := by
  refine ⟨ho.1, ?_⟩
  rcases ho.2 with h2 | ⟨g, cap, cur, rfl, h3, h4, h5⟩
  · exact .inl h2
  · refine .inr ⟨g, cap, cur, rfl, h3, ?_, h5⟩
    rw [h.block g (Array.getElem?_eq_some_iff.1 h4).1 (hn g rfl)]
    exact h4
end

theorem row_base {w : World} {B B' : Nat} {e : TypeId} {size : Nat} {v : Value} {n : Nat} {xs : List Value} (h : w.ownsRow B e size v n xs) (hb : ∀ q, v.ownBlock = some q → B' ≤ q) : w.ownsRow B' e size v n xs := by
  refine ⟨h.1, ?_⟩
  rcases h.2 with h2 | ⟨g, cap, cur, rfl, h3, h4⟩
  · exact .inl h2
  · exact .inr ⟨g, cap, cur, rfl, hb g rfl, h4⟩
/-- A slice's cells read so. -/
def Sl (w : World) (A : Option Addr) (vs : List Value) : Prop :=
  vs = [] ∨ ∃ b o, A = some ⟨b, o, none⟩ ∧ b < w.heap.size ∧ ∀ k, k < vs.length → w.cell? ⟨b, o + k, none⟩ = vs[k]?

section
variable {S : Nat → Prop} {w w' : World} {A : Option Addr} {vs : List Value}
theorem Sl.at (h : Sl w A vs) (hne : 0 < vs.length) : ∃ b o, A = some ⟨b, o, none⟩ ∧ b < w.heap.size ∧ ∀ k, k < vs.length → w.cell? ⟨b, o + k, none⟩ = vs[k]? := by
  rcases h with rfl | h
  · simp at hne
  · exact h
theorem Sl.eff (h : Sl w A vs) (he : Eff S w w') (hn : ∀ a, A = some a → ¬ S a.block) : Sl w' A vs := by
  rcases h with h | ⟨b, o, rfl, hb, hc⟩
  · exact .inl h
  · exact .inr ⟨b, o, rfl, Nat.lt_of_lt_of_le hb he.size, fun k hk => (he.cell hb (hn _ rfl)).trans (hc k hk)⟩
theorem Sl.below {B : Nat} (h : Sl w A vs) (he : Below B w w') (hn : ∀ a, A = some a → a.block < B) : Sl w' A vs := by
  rcases h with h | ⟨b, o, rfl, hb, hc⟩
  · exact .inl h
  · exact .inr ⟨b, o, rfl, Nat.lt_of_lt_of_le hb he.size, fun k hk => (he.cell (p := ⟨b, o + k, none⟩) (hn ⟨b, o, none⟩ rfl)).trans (hc k hk)⟩
theorem Sl.row {base : Nat} {e : TypeId} {size : Nat} {v : Value} {n : Nat} (ho : w.ownsRow base e size v n vs) : ∃ A c, v = .slice A n c ∧ n ≤ c ∧ c ≤ maxLen ∧ Sl w A vs := by
  have hl := ho.1
  rcases ho.2 with ⟨rfl, rfl⟩ | ⟨g, cap, cur, rfl, h3, h4, h5, h6, h7, h8⟩
  · exact ⟨none, 0, rfl, Nat.le_refl _, Nat.zero_le _, .inl (by simpa using hl)⟩
  · refine ⟨_, cap, rfl, h5, h6, .inr ⟨g, 0, rfl, (Array.getElem?_eq_some_iff.1 h4).1, fun k hk => ?_⟩⟩
    have := World.ownsRow.cellAt ho k (by omega)
    simpa using this
end

/-! Rows of structs of one size. -/
section
variable {α : Type} {f : α → List Value} {s : Nat}
theorem flat_length (hs : ∀ x, (f x).length = s) (l : List α) : (l.flatMap f).length = l.length * s := by
  induction l with
  | nil => simp
  | cons x l ih => simp [List.flatMap_cons, hs, ih, Nat.add_mul]; omega
theorem flat_get (hs : ∀ x, (f x).length = s) (l : List α) (rest : List Value) (k j : Nat) (x : α) (hx : l[k]? = some x) (hj : j < s) : (l.flatMap f ++ rest)[k * s + j]? = (f x)[j]? := by
  induction l generalizing k with
  | nil => simp at hx
  | cons y l ih =>
    rw [List.flatMap_cons, List.append_assoc]
    cases k with
    | zero =>
      simp only [List.getElem?_cons_zero, Option.some.injEq] at hx
      subst hx
      rw [Nat.zero_mul, Nat.zero_add, List.getElem?_append_left (by rw [hs]; exact hj)]
    | succ k =>
      rw [List.getElem?_append_right (by rw [hs, Nat.add_mul]; omega)]
      have e : (k + 1) * s + j - (f y).length = k * s + j := by rw [hs, Nat.add_mul]; omega
      rw [e]
      exact ih k (by simpa using hx)
theorem flat_set (hs : ∀ x, (f x).length = s) (l : List α) (rest : List Value) (k j : Nat) (x y : α) (v : Value) (hx : l[k]? = some x) (hj : j < s) (hy : (f x).set j v = f y) :
    (l.flatMap f ++ rest).set (k * s + j) v = (l.set k y).flatMap f ++ rest := by
  induction l generalizing k with
  | nil => simp at hx
  | cons z l ih =>
    rw [List.flatMap_cons, List.append_assoc]
    cases k with
    | zero =>
      simp only [List.getElem?_cons_zero, Option.some.injEq] at hx
      subst hx
      rw [Nat.zero_mul, Nat.zero_add, List.set_append_left _ _ (by rw [hs]; exact hj), hy]
      simp
    | succ k =>
      rw [List.set_append_right _ _ (by rw [hs, Nat.add_mul]; omega)]
      have e : (k + 1) * s + j - (f z).length = k * s + j := by rw [hs, Nat.add_mul]; omega
      rw [e, ih k (by simpa using hx)]
      simp
end

theorem flat_extract {α : Type} {f : α → List Value} {s : Nat} (hs : ∀ x, (f x).length = s) (l : List α) (k : Nat) (x : α) (hx : l[k]? = some x) : (l.flatMap f).toArray.extract (k * s) (k * s + s) = (f x).toArray := by
  apply Array.ext'
  simp only [Array.toList_extract]
  have : List.extract (l.flatMap f) (k * s) (k * s + s) = f x := by
    induction l generalizing k with
    | nil => simp at hx
    | cons y l ih =>
      rw [List.flatMap_cons]
      cases k with
      | zero =>
        simp only [List.getElem?_cons_zero, Option.some.injEq] at hx
        subst hx
        simp [List.extract, hs]
      | succ k =>
        have h := ih k (by simpa using hx)
        simp only [List.extract, Nat.add_sub_cancel_left] at h ⊢
        rw [show (k + 1) * s = (f y).length + k * s from by rw [hs, Nat.add_mul]; omega, List.drop_length_add_append]
        exact h
  simpa using this

/-! Whole arrays and structs that are loaded, and parts of them. -/
section
variable {P : Program} {ops : Array Oper} {rest : List Oper} {o : Oper} {a : Act} {Q : Exit → Act → World → Prop} {w : World}
def isAggDesc : TypeDesc → Bool
  | .struct _ | .array _ _ => true
  | _ => false
theorem run_isAgg {t : TypeId} {d : TypeDesc} (hu : P.underlying t = some d) (hd : isAggDesc d = true) : (isAgg t).run P w = .ok true w := by
  unfold isAgg
  rw [Sem.run_bind, run_underlying hu w]
  cases d <;> simp_all [isAggDesc]
theorem run_loadVar_cells {ty : TypeId} (ad : Addr) (vs : List Value) (hc : ∀ j u, vs[j]? = some u → w.cell? (ad.add j) = some u) {d : TypeDesc} (hu : P.underlying ty = some d) (hd : isAggDesc d = true)
    (hi : (P.info? ty).map (·.size) = some vs.length) : (loadVar ty ad).run P w = .ok (.agg vs.toArray) w := by
  have hl := run_loadCells_list (P := P) w ad vs hc
  cases hq : P.info? ty with
  | none => simp [hq] at hi
  | some i =>
    have hs : i.size = vs.length := by simpa [hq] using hi
    simp [loadVar, Sem.run_bind, run_isAgg (w := w) hu hd, sizeOf, typeInfo, hq, hs, hl]
theorem wpList_load_agg (hgd : o.guard = none) (ty : TypeId) (x : Operand) (ho : o.op = .load ty x) (ad : Addr) (hx : a.eval x = .pointer (some ad)) (vs : List Value)
    (hc : ∀ j u, vs[j]? = some u → w.cell? (ad.add j) = some u) (d : TypeDesc) (hu : P.underlying ty = some d) (hd : isAggDesc d = true) (hi : (P.info? ty).map (·.size) = some vs.length)
    (h : wpList P ops Q rest (a.put o.dst (.agg vs.toArray)) w) : wpList P ops Q (o :: rest) a w :=
  wpList_plain hgd fun _ hK => by
    unfold Oper.wp execOp
    simp only [ho, hx, Instr.loadAt, Instr.sureAddr, Sem.run_bind, Sem.run_pure, Result.andThen_ok, run_loadVar_cells ad vs hc hu hd hi]
    exact hK _ _ h
/-- A whole struct or array is stored: the block's cells from there on are these. -/
theorem wpList_store_agg (hgd : o.guard = none) (ty : TypeId) (x y : Operand) (ho : o.op = .store ty x y) (g off : Nat) (hx : a.eval x = .pointer (some ⟨g, off, none⟩)) (vs : List Value)
    (hy : a.eval y = .agg vs.toArray) (cur : List Value) (E : TypeId) (hb : Blk w g cur E) (hfit : off + vs.length ≤ cur.length) (h1 : vs.all (fun u => u.oneCell') = true) (hi : (P.info? ty).map (·.size) = some vs.length)
    (h : ∀ w', Blk w' g (cur.take off ++ vs ++ cur.drop (off + vs.length)) E → Eff (· = g) w w' → w'.heap.size = w.heap.size → wpList P ops Q rest (a.put o.dst undef) w') : wpList P ops Q (o :: rest) a w :=
  wpList_plain hgd fun _ hK => by
    have hsc := run_storeCells_at (P := P) g off E vs 0 cur.toArray w hb (by simpa using hfit) (List.all_eq_true.1 h1)
    have hsv : (storeVar ty ⟨g, off, none⟩ (.agg vs.toArray)).run P w = .ok () (w.setRow g (cur.toArray.toList.take (off + 0) ++ vs ++ cur.toArray.toList.drop (off + 0 + vs.length)).toArray) := by
      cases hq : P.info? ty with
      | none => simp [hq] at hi
      | some i =>
        have hs : i.size = vs.length := by simpa [hq] using hi
        simp [storeVar, Sem.run_bind, sizeOf, typeInfo, hq, hs, Value.cells]
        simpa using hsc
    unfold Oper.wp execOp
    simp only [ho, hx, hy, Instr.storeAt, Instr.sureAddr, Sem.run_bind, Sem.run_pure, Result.andThen_ok, hsv]
    refine hK _ _ (h _ ?_ ⟨rfl, rfl, rfl, by simp, fun k _ hn => setRow_other w g k _ hn⟩ (by simp))
    have := setRow_heap w g cur.toArray (cur.toArray.toList.take (off + 0) ++ vs ++ cur.toArray.toList.drop (off + 0 + vs.length)).toArray E _ hb
    simpa [Blk] using this
theorem wpList_index_agg (hgd : o.guard = none) (ty : TypeId) (x y : Operand) (ho : o.op = .index ty x y) (cs : Array Value) (hx : a.eval x = .agg cs) (k : Nat) (hy : a.eval y = .int .i64 k)
    (n : Nat) (e : TypeId) (hu : P.underlying ty = some (.array n e)) (hk : k < n) (d : TypeDesc) (hue : P.underlying e = some d) (hd : isAggDesc d = true) (s : Nat) (hi : (P.info? e).map (·.size) = some s)
    (ys : Array Value) (he : cs.extract (k * s) (k * s + s) = ys) (h : wpList P ops Q rest (a.put o.dst (.agg ys)) w) : wpList P ops Q (o :: rest) a w :=
  wpList_plain hgd fun _ hK => by
    have hp : (part e cs (k * s)).run P w = .ok (.agg ys) w := by
      cases hq : P.info? e with
      | none => simp [hq] at hi
      | some i =>
        have hs : i.size = s := by simpa [hq] using hi
        simp [part, Sem.run_bind, run_isAgg (w := w) hue hd, sizeOf, typeInfo, hq, hs, he]
    have hs : (sizeOf e).run P w = .ok s w := by
      cases hq : P.info? e with
      | none => simp [hq] at hi
      | some i =>
        have hs : i.size = s := by simpa [hq] using hi
        simp [sizeOf, typeInfo, hq, hs]
    have hr : (Instr.index ty (.agg cs) (.int .i64 k)).run P w = .ok (.agg ys) w := by
      simp [Instr.index, run_underlying hu, asIntOf, hk, hs, hp, Sem.run_bind]
    unfold Oper.wp execOp
    simp only [ho, hx, hy, Sem.run_bind, hr, Result.andThen_ok, Sem.run_pure]
    exact hK _ _ h
end

/-- A slice type's row of the program's table: its element's zero, cells, bytes. -/
structure RowT (P : Program) (t e : TypeId) (z : Value) (size bytes : Nat) : Prop where
  und : P.underlying t = some (.slice e)
  info : (P.info? e).map (fun i => (i.zero, i.size, i.bytes)) = some (some z, size, bytes)
  zs : z.cells.size = size
  pos : 0 < size
section
variable {P : Program} {ops : Array Oper} {rest : List Oper} {o : Oper} {a : Act} {Q : Exit → Act → World → Prop}
/-- 'append(v, x, ..)': the new ones laid in a block just ahead of it. -/
theorem wpList_append_new {t e : TypeId} {z : Value} {size bytes : Nat} (T : RowT P t e z size bytes) (hgd : o.guard = none) (s x : Operand)
    (ho : o.op = .call { callee := .builtin .append, args := #[s, x], argTypes := #[t, t] }) (base : Nat) (v : Value) (n : Nat) (xs : List Value) (hs : a.eval s = v) {w1 : World}
    (hown : w1.ownsRow base e size v n xs) (m : Nat) (news : List Value) (B : Nat) (hx : a.eval x = .slice (some ⟨B, 0, none⟩) m m) (hB : w1.heap.size = B) (hl : news.length = m * size)
    (h1 : news.all (fun u => u.oneCell') = true) (h63 : n + m ≤ maxLen) (hbytes : (n + m) * bytes ≤ 140737488355328) (hbase : base ≤ w1.heap.size) {w : World} (hw : w = w1.alloc (.cells news.toArray e))
    (h : ∀ v' w', w'.ownsRow base e size v' (n + m) (xs ++ news) → w1.grownBy w' v.ownBlock → wpList P ops Q rest (a.put o.dst v') w') :
    wpList P ops Q (o :: rest) a w := by
  obtain ⟨i, hi, hz, hsz, hby⟩ := info_parts T.info
  subst hw hB
  refine wpList_append_own _ hgd s x t ho base e i z size bytes T.und hi hz hsz hby T.zs T.pos v n xs hs (hown.alloc _) ⟨w1.heap.size, 0, none⟩ m m news hx hl ?_ (List.all_eq_true.1 h1) h63 hbytes (Nat.le_trans hbase (by simp)) ?_
  · intro j u hu
    have e1 : (⟨w1.heap.size, 0, none⟩ : Addr).add j = ⟨w1.heap.size, j, none⟩ := by unfold Addr.add; split <;> simp_all
    rw [e1, (Blk.new w1 news e).cell, hu]
  · intro v' w' ho' hg _
    refine h v' w' ho' ⟨hg.os, hg.tape, hg.output, Nat.le_trans (by simp) hg.size, fun k hk hn => (hg.block k (Nat.lt_of_lt_of_le hk (by simp)) hn).trans (Below.heap_alloc _ _ _ hk)⟩
end

section
variable {P : Program} {ops : Array Oper} {rest : List Oper} {o : Oper} {a : Act} {Q : Exit → Act → World → Prop}
/-- 'make([]T, 0, n)'. -/
theorem wpList_make_room {t e : TypeId} {z : Value} {size bytes : Nat} (T : RowT P t e z size bytes) {w : World} (hgd : o.guard = none) (l c : Operand) (ho : o.op = Op.makeSlice t l c) (base : Nat) (n : Nat)
    (hl : a.eval l = .int .i64 0) (C : Int) (hc : a.eval c = .int .i64 C) (hC : C = (n : Int)) (b2 : bytes * n ≤ 281474976710656) (b3 : n ≤ maxLen) (b4 : base ≤ w.heap.size)
    (h : ∀ w', w'.ownsRow base e size (.slice (some ⟨w.heap.size, 0, none⟩) 0 n) 0 [] → w.grownBy w' none → wpList P ops Q rest (a.put o.dst (.slice (some ⟨w.heap.size, 0, none⟩) 0 n)) w') :
    wpList P ops Q (o :: rest) a w := by
  obtain ⟨i, hi, hz, hsz, hby⟩ := info_parts T.info
  exact wpList_make_own w hgd l c t ho base e i z size T.und hi hz hsz .i64 .i64 C n hl hc hC (by rw [hby]; exact b2) b3 b4 h
end

theorem tmod_fix (n b : Int) (hb : 0 < b) : (if n.tmod b < 0 then n.tmod b + b else n.tmod b) = n % b := by
  have h0 := Int.emod_nonneg n (show b ≠ 0 by omega)
  have h1 := Int.emod_lt_of_pos n hb
  rw [Int.tmod_eq_emod]
  have ha : (b.natAbs : Int) = b := by omega
  by_cases h : 0 ≤ n ∨ b ∣ n
  · rw [if_pos h]
    simp only [Int.ofNat_zero, Int.sub_zero]
    rw [if_neg (by omega)]
  · rw [if_neg h, ha, if_pos (by omega)]
    omega
end Go.Proofs.YtogcbiooddodlaaDoor
