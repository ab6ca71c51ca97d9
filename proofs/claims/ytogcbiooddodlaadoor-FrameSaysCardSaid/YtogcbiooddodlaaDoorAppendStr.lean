/- append(b, s...): a string's bytes behind a row of the call's own. -/
import Derived.Test.YtogcbiooddodlaaDoorWireMore
import Derived.Deep.AppendSrc
namespace Go.Proofs.YtogcbiooddodlaaDoor
open Go.RowKit
set_option linter.unusedSimpArgs false

section
variable {P : Program} (w : World)
theorem run_append_room_str (t tx ty e : TypeId) (i : TypeInfo) (ht : P.underlying t = some (.slice e)) (hk : P.underlying tx = some .string) (hi : P.info? e = some i) (hsz : i.size = 1)
    (g sLen sCap : Nat) (cur : Array Value) (hg : w.heap[g]? = some (.cells cur e (0, 0))) (s : ByteArray) (hroom : sLen + s.size ≤ sCap) (hfit : sLen + s.size ≤ cur.size) :
    (Builtin.append_ #[t, tx] ty #[.slice (some ⟨g, 0, none⟩) sLen sCap, .string s]).run P w =
      .ok (.slice (some ⟨g, 0, none⟩) (sLen + s.size) sCap) (w.setRow g (cur.toList.take sLen ++ byteCells s ++ cur.toList.drop (sLen + s.size)).toArray) := by
  have hs := Src.ofString (P := P) w hk s
  have hst := run_storeCells_at P g sLen e (byteCells s) 0 cur w hg (by rw [byteCells_length]; simpa using hfit) hs.one
  simp only [Nat.add_zero] at hst
  rw [byteCells_length] at hst
  have hc := hs.cells
  have hl := hs.len
  simp [Builtin.append_, run_underlying ht, run_underlying hk, sizeOf, typeInfo, hi, hsz, hl, hroom, hc, Addr.add_lit, hst]
theorem run_append_own_str (base : Nat) (t tx ty e : TypeId) (i : TypeInfo) (z : Value) (ht : P.underlying t = some (.slice e)) (hk : P.underlying tx = some .string) (hi : P.info? e = some i) (hz : i.zero = some z)
    (hsz : i.size = 1) (hby : i.bytes = 1) (hzs : z.cells.size = 1) (v : Value) (n : Nat) (xs : List Value) (hown : w.ownsRow base e 1 v n xs) (hn : 0 < n) (s : ByteArray)
    (h63 : n + s.size ≤ 2000000) (hbase : base ≤ w.heap.size) :
    ∃ v' w', (Builtin.append_ #[t, tx] ty #[v, .string s]).run P w = .ok v' w' ∧ w'.ownsRow base e 1 v' (n + s.size) (xs ++ byteCells s) ∧ w.grownBy w' v.ownBlock := by
  have hlen : (xs ++ byteCells s).length = (n + s.size) * 1 := by rw [List.length_append, hown.1, byteCells_length, Nat.add_mul, Nat.mul_one s.size]
  have hxl : xs.length = n := by rw [hown.1, Nat.mul_one]
  rcases hown.2 with ⟨rfl, rfl⟩ | ⟨g, cap, cur, rfl, hbg, hg, hnc, hcm, hcs, htake⟩
  · omega
  · rw [Nat.mul_one] at hcs htake
    by_cases hroom : n + s.size ≤ cap
    · have hr := run_append_room_str (P := P) w t tx ty e i ht hk hi hsz g n cap cur hg s hroom (by omega)
      refine ⟨_, _, hr, ⟨hlen, .inr ⟨g, cap, _, rfl, hbg, setRow_heap w g cur _ e _ hg, hroom, hcm, ?_, ?_⟩⟩, ⟨rfl, rfl, rfl, by simp, fun k _ hk => setRow_other w g k _ (fun e => hk (by simp [Value.ownBlock, e]))⟩⟩
      · simp only [List.size_toArray, List.length_append, List.length_take, List.length_drop, Array.length_toList, byteCells_length]
        omega
      · rw [htake, ← hlen]
        exact List.take_left
    · have hcell : ∀ j u, xs[j]? = some u → w.drew.cell? ((⟨g, 0, none⟩ : Addr).add j) = some u := hown.cells (g := g) rfl
      have hold := run_firstCells_some (P := P) w.drew i.size n ⟨g, 0, none⟩ n cap xs (by rw [hsz]; omega) hcell
      have hge := grownCap_ge w (n + s.size) cap e
      have hcm2 : grownCap w (n + s.size) cap e ≤ maxLen := grownCap_le_maxLen w (n + s.size) cap e (by unfold maxLen; omega)
      have hr := run_append_grow_src (P := P) w t tx ty e i z ht hi hz (some ⟨g, 0, none⟩) n cap xs hold (.string s) s.size (byteCells s) (by rw [hsz]; exact Src.ofString w hk s) (by omega) (by omega) (growslice_fits (by omega) (by rw [hby]; omega))
      refine ⟨_, _, hr, ⟨hlen, .inr ⟨w.heap.size, _, _, rfl, hbase, heap_alloc_new w.drew _, hge, hcm2, ?_, ?_⟩⟩, ⟨rfl, rfl, rfl, by simp, fun k hk _ => Below.heap_alloc w.drew _ k hk⟩⟩
      · simp only [Array.size_append, List.size_toArray, size_zeroCells, hzs, hlen]
        omega
      · simp only [Array.toList_append]
        rw [← hlen]
        exact List.take_left
end
/-- A text's bytes, as numbers. -/
def strB (s : ByteArray) : List Int := s.data.toList.map fun b => (b.toNat : Int)
theorem strB_len (s : ByteArray) : (strB s).length = s.size := by rw [strB, List.length_map, Array.length_toList]; rfl
theorem strB_cells (s : ByteArray) : byteCells s = (strB s).map (Value.int .u8) := by simp [byteCells, strB]
theorem strB_b (s : ByteArray) : IsB (strB s) := fun b hb => by
  obtain ⟨x, _, rfl⟩ := List.mem_map.1 hb
  have := x.toNat_lt
  omega
theorem wpList_append_str {ops : Array Oper} {rest : List Oper} {o : Oper} {a : Act} {Q : Exit → Act → World → Prop} {base : Nat} {w : World} {v : Value} {xs : List Int} {s : ByteArray} (hgd : o.guard = none) (d x : Operand)
    (ho : o.op = .call { callee := .builtin .append, args := #[d, x], argTypes := #[23, 9] }) (hs : a.eval d = v) (hown : w.ownsRow base 5 1 v xs.length (xs.map (Value.int .u8)))
    (hx : a.eval x = .string s) (hn : 0 < xs.length) (hl : xs.length + s.size ≤ 2000000) (hbase : base ≤ w.heap.size)
    (h : ∀ v' w', w'.ownsRow base 5 1 v' (xs ++ strB s).length ((xs ++ strB s).map (Value.int .u8)) → Below base w w' → wpList Tryd.prog ops Q rest (a.put o.dst v') w') : wpList Tryd.prog ops Q (o :: rest) a w := by
  obtain ⟨ti, hi, hz, hsz, hby⟩ := info_parts rowBytes.info
  obtain ⟨v', w', hr, h1, hg⟩ := run_append_own_str (P := Tryd.prog) w base 23 9 o.type 5 ti (.int .u8 0) Tryd.underlying23 Tryd.underlying9 hi hz hsz hby rfl v xs.length _ hown hn s hl hbase
  refine wpList_plain hgd fun K hK => ?_
  unfold Oper.wp execOp
  simp only [ho, resolve, invoke, builtin, Sem.run_bind, Sem.run_pure, Result.andThen_ok, List.map_toArray, List.map_cons, List.map_nil, hs, hx, hr]
  refine hK _ _ (h v' w' ?_ ((Below.refl base w).grown hg hbase (fun k hk => (hown.lt k hk).1)))
  rw [List.length_append, strB_len, List.map_append, ← strB_cells]
  exact h1
end Go.Proofs.YtogcbiooddodlaaDoor
