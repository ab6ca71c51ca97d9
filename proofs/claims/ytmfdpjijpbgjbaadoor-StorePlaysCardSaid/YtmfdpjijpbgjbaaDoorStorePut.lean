/- A record that is kept: a number is laid as six bytes. -/
import Derived.Test.YtmfdpjijpbgjbaaDoorStoreBad
import Derived.Test.YtmfdpjijpbgjbaaDoorCellMake
import Derived.Deep.AppendLies
namespace Go.Proofs.YtmfdpjijpbgjbaaDoor
open Go.RowKit
set_option linter.unusedSimpArgs false

def GivesRow (w : World) (base : Nat) (xs : List Int) (e : Ending) (w' : World) : Prop := ∃ v, e = .returned v ∧ w'.ownsRow base 5 1 v xs.length (xs.map (Value.int .u8)) ∧ Below base w w'
/-- One byte more, laid in a block just ahead. -/
theorem wpList_append_byte {ops : Array Oper} {rest : List Oper} {o : Oper} {a : Act} {Q : Exit → Act → World → Prop} {base : Nat} {w w0 : World} {v : Value} {xs : List Int} (hgd : o.guard = none) (s x : Operand)
    (ho : o.op = .call { callee := .builtin .append, args := #[s, x], argTypes := #[41, 41] }) (hs : a.eval s = v) (hown : w0.ownsRow base 5 1 v xs.length (xs.map (Value.int .u8)))
    (y : Int) (B : Nat) (hB : w0.heap.size = B) (hx : a.eval x = .slice (some ⟨B, 0, none⟩) 1 1) (hw : w = w0.alloc (.cells #[.int .u8 y] 5)) (hl : xs.length ≤ 2000000) (hbase : base ≤ w0.heap.size)
    (h : ∀ v' w', w'.ownsRow base 5 1 v' (xs ++ [y]).length ((xs ++ [y]).map (Value.int .u8)) → Below base w0 w' → wpList Tryd.prog ops Q rest (a.put o.dst v') w') : wpList Tryd.prog ops Q (o :: rest) a w := by
  subst hw hB
  obtain ⟨ti, hi, hz, hsz, hby⟩ := info_parts rowBytes.info
  refine wpList_append_own _ hgd s x 41 ho base 5 ti (.int .u8 0) 1 1 Tryd.underlying41 hi hz hsz hby rfl (by decide) v xs.length _ hs (hown.alloc _) ⟨w0.heap.size, 0, none⟩ 1 1 [Value.int .u8 y] hx rfl ?_ (ints_oneCell .u8 [y]) (by unfold maxLen; omega) (by omega) (Nat.le_trans hbase (by simp)) ?_
  · intro j u hu
    rw [add_at, Nat.zero_add, (Blk.new w0 [Value.int .u8 y] 5).cell, hu]
  · intro v' w' h1 hg _
    refine h v' w' (by simpa using h1) (((Below.refl base w0).alloc hbase _).grown hg (Nat.le_trans hbase (by simp)) (fun k hk => (hown.lt k hk).1))

def b6At (n : Int) (i : Nat) : Int := n / 2 ^ (8 * (5 - i)) % 256
def b6k (n : Int) (k : Nat) : List Int := (List.range k).map (b6At n)
def b6 (n : Int) : List Int := b6k n 6
theorem b6k_succ (n : Int) (k : Nat) : b6k n (k + 1) = b6k n k ++ [b6At n k] := by simp [b6k, List.range_succ]
theorem b6k_len (n : Int) (k : Nat) : (b6k n k).length = k := by simp [b6k]
theorem b6_b (n : Int) : ∀ x ∈ b6 n, 0 ≤ x ∧ x ≤ 255 := fun x hx => by
  obtain ⟨i, _, rfl⟩ := List.mem_map.1 hx
  unfold b6At
  omega
def SixRel (w : World) (base : Nat) (xs : List Int) (n : Int) (v i : Value) (wr : World) : Prop :=
  ∃ k : Nat, k ≤ 6 ∧ i = .int .i64 k ∧ wr.ownsRow base 5 1 v (xs ++ b6k n k).length ((xs ++ b6k n k).map (Value.int .u8)) ∧ Below base w wr
attribute [irreducible] SixRel
set_option maxRecDepth 100000 in
set_option maxHeartbeats 4000000 in
theorem put6_any (n : Int) (v : Value) (xs : List Int) (base : Nat) (w : World) (hown : w.ownsRow base 5 1 v xs.length (xs.map (Value.int .u8))) (hB : base ≤ w.heap.size) (hl : xs.length ≤ 1000000) :
    Calls Tryd.prog 43 #[v, .int .i64 n] w (GivesRow w base (xs ++ b6 n)) := by
  go_enter Tryd.func43, Tryd.ntmps43
  go_wp2_with fail
  go_loopw [0, 6] (fun v i wr => SixRel w base xs n v i wr) (fun _ i _ => 6 - (intOf i).toNat)
  case atStart => unfold SixRel; exact ⟨0, by omega, rfl, by simpa [b6k] using hown, Below.refl _ _⟩
  case round =>
    clear hown
    unfold SixRel at hrel
    obtain ⟨k, hk, rfl, hown, hb⟩ := hrel
    by_cases hlt : k < 6
    · have hlen : (xs ++ b6k n k).length ≤ 2000000 := by
        rw [List.length_append, b6k_len]
        omega
      have HO := hid (And.intro hown (And.intro hlen (Nat.le_trans hB hb.size)))
      have HS := hid (b6k_succ n k)
      have hw1 : wrap64 (5 - (k : Int)) = 5 - k := IntWalk.wrap64_in _ ⟨by omega, by omega⟩
      clear hown hlen
      go_wp2_with (at_builtin; refine wpList_append_byte rfl _ _ rfl rfl HO.out.1 (b6At n k) wr.heap.size rfl rfl rfl HO.out.2.1 HO.out.2.2 ?_; intro v5 w5 hown5 hb5; rw [List.append_assoc, ← HS.out] at hown5)
      go_roundw
      case rel => unfold SixRel; exact ⟨k + 1, by omega, by go_num, hown5, hb.trans hb5⟩
      case measure => simp [intOf]; omega
    · obtain rfl : k = 6 := by omega
      go_wp2_with fail
      go_ret
      exact ⟨_, rfl, hown, hb⟩
end Go.Proofs.YtmfdpjijpbgjbaaDoor
