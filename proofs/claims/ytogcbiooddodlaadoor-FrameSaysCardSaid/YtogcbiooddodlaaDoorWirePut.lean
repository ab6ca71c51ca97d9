/- Numbers as bytes: a number is laid. -/
import Derived.Test.YtogcbiooddodlaaDoorWirePure
import Derived.Test.YtogcbiooddodlaaDoorCellMake
import Derived.Test.YtogcbiooddodlaaDoorRegions
import Derived.Deep.AppendLies
namespace Go.Proofs.YtogcbiooddodlaaDoor
open Go.RowKit
set_option linter.unusedSimpArgs false

def PutRel (w : World) (base : Nat) (xs : List Int) (n : Int) (v z : Value) (wr : World) : Prop :=
  ∃ (pre : List Int) (y : Nat), z = .int .u64 y ∧ y < 18446744073709551616 ∧ pre ++ form y = form (zz n) ∧ wr.ownsRow base 5 1 v (xs ++ pre).length ((xs ++ pre).map (Value.int .u8)) ∧ Below base w wr
attribute [irreducible] PutRel
def GivesRow (w : World) (base : Nat) (xs : List Int) (e : Ending) (w' : World) : Prop := ∃ v, e = .returned v ∧ w'.ownsRow base 5 1 v xs.length (xs.map (Value.int .u8)) ∧ Below base w w'
def valOf : Value → Nat | .int _ n => n.toNat | _ => 0

/-- One byte more, laid in a block just ahead. -/
theorem wpList_append_byte {ops : Array Oper} {rest : List Oper} {o : Oper} {a : Act} {Q : Exit → Act → World → Prop} {base : Nat} {w w0 : World} {v : Value} {xs : List Int} (hgd : o.guard = none) (s x : Operand)
    (ho : o.op = .call { callee := .builtin .append, args := #[s, x], argTypes := #[23, 23] }) (hs : a.eval s = v) (hown : w0.ownsRow base 5 1 v xs.length (xs.map (Value.int .u8)))
    (y : Int) (B : Nat) (hB : w0.heap.size = B) (hx : a.eval x = .slice (some ⟨B, 0, none⟩) 1 1) (hw : w = w0.alloc (.cells #[.int .u8 y] 5)) (hl : xs.length ≤ 2000000) (hbase : base ≤ w0.heap.size)
    (h : ∀ v' w', w'.ownsRow base 5 1 v' (xs ++ [y]).length ((xs ++ [y]).map (Value.int .u8)) → Below base w0 w' → wpList Tryd.prog ops Q rest (a.put o.dst v') w') : wpList Tryd.prog ops Q (o :: rest) a w := by
  subst hw hB
  obtain ⟨ti, hi, hz, hsz, hby⟩ := info_parts rowBytes.info
  refine wpList_append_own _ hgd s x 23 ho base 5 ti (.int .u8 0) 1 1 Tryd.underlying23 hi hz hsz hby rfl (by decide) v xs.length _ hs (hown.alloc _) ⟨w0.heap.size, 0, none⟩ 1 1 [Value.int .u8 y] hx rfl ?_ (ints_oneCell .u8 [y]) (by unfold maxLen; omega) (by omega) (Nat.le_trans hbase (by simp)) ?_
  · intro j u hu
    rw [add_at, Nat.zero_add, (Blk.new w0 [Value.int .u8 y] 5).cell, hu]
  · intro v' w' h1 hg _
    refine h v' w' (by simpa using h1) (((Below.refl base w0).alloc hbase _).grown hg (Nat.le_trans hbase (by simp)) (fun k hk => (hown.lt k hk).1))

set_option maxRecDepth 100000 in
set_option maxHeartbeats 4000000 in
theorem putNum_any (n : Int) (hn : inI n) (v : Value) (xs : List Int) (base : Nat) (w : World) (hown : w.ownsRow base 5 1 v xs.length (xs.map (Value.int .u8))) (hB : base ≤ w.heap.size) (hl : xs.length ≤ 1000000) :
    Calls Tryd.prog 43 #[v, .int .i64 n] w (GivesRow w base (xs ++ form (zz n))) := by
  have hz := zz_bits hn
  have HL := hid (form_len10 (zz_lt hn))
  have HZ := hid (zz_lt hn)
  obtain ⟨h1, h2⟩ := hn
  obtain ⟨A0, c0, rfl, _, _, _⟩ := Sl.row hown
  go_enter Tryd.func43, Tryd.ntmps43
  go_wp2_with fail
  clear hz
  go_loopw [0, 5] (fun v z wr => PutRel w base xs n v z wr) (fun _ z _ => valOf z)
  case atStart => unfold PutRel; exact ⟨[], zz n, rfl, HZ.out, rfl, by simpa using hown, Below.refl _ _⟩
  case round =>
    clear hown
    unfold PutRel at hrel
    obtain ⟨pre, y, rfl, hy, hf, hown, hb⟩ := hrel
    obtain ⟨A1, c1, rfl, _, _, _⟩ := Sl.row hown
    have hlen : (xs ++ pre).length ≤ 2000000 := by
      have h := HL.out
      rw [← hf, List.length_append] at h
      rw [List.length_append]; omega
    have HO := hid (And.intro hown (And.intro hlen (Nat.le_trans hB hb.size)))
    by_cases hge : y < 128
    · have hf2 := hf
      rw [form_small hge] at hf2
      have HF := hid hf2
      have hy' : ¬ 128 ≤ (y : Int) := by omega
      have hy2 : (y : Int) < 128 := by omega
      clear hown hlen hf hf2
      go_wp2_with (at_builtin; refine wpList_append_byte rfl _ _ rfl rfl HO.out.1 (y : Int) wr.heap.size rfl rfl rfl HO.out.2.1 HO.out.2.2 ?_; intro v5 w5 hown5 hb5; rw [List.append_assoc, HF.out] at hown5; obtain ⟨A5, c5, rfl, _, _, _⟩ := Sl.row hown5)
      go_ret
      exact ⟨.slice A5 (xs ++ form (zz n)).length c5, by rw [List.length_append]; rfl, hown5, hb.trans hb5⟩
    · have hf2 := hf
      rw [form_big hge] at hf2
      have HF := hid hf2
      have HBM := hid (byte_more (z := y))
      have hy' : 128 ≤ (y : Int) := by omega
      clear hown hlen hf hf2
      go_wp2_with (at_builtin; refine wpList_append_byte rfl _ _ rfl rfl HO.out.1 ((y % 128 + 128 : Nat) : Int) wr.heap.size rfl rfl (by rw [HBM.out]) HO.out.2.1 HO.out.2.2 ?_; intro v5 w5 hown5 hb5)
      rw [List.append_assoc] at hown5
      go_roundw
      case rel => unfold PutRel; exact ⟨_, y / 128, by go_num, by omega, by rw [List.append_assoc]; exact HF.out, hown5, hb.trans hb5⟩
      case measure => simp [valOf]; omega
end Go.Proofs.YtogcbiooddodlaaDoor
