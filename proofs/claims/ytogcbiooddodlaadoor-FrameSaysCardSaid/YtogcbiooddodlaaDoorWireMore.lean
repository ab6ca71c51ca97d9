/- A reader: whether something is so; a text behind an error; bytes behind bytes. -/
import Derived.Test.YtogcbiooddodlaaDoorWireFirst
import Derived.Test.YtogcbiooddodlaaDoorWireLaw
import Derived.Laws.AppendOwnNone
namespace Go.Proofs.YtogcbiooddodlaaDoor
open Go.RowKit
set_option linter.unusedSimpArgs false

def GivesBoolR (ad : Int → Addr) (w : World) (lo r : Nat) (bs : List Int) (b : Bool) (a : Nat × Option (Int × Nat)) (e : Ending) (w' : World) : Prop := e = .returned (.bool b) ∧ RdrL ad w' lo r bs a.1 a.2 ∧ Eff (· = r) w w'
set_option maxHeartbeats 800000 in
theorem bool_any {ad : Int → Addr} {lo r p : Nat} {bs : List Int} {o : Option (Int × Nat)} (w : World) (hE : Errs3 ad w) (hr : RdrL ad w lo r bs p o) :
    Calls Tryd.prog 30 #[.pointer (some ⟨r, 0, none⟩)] w (GivesBoolR ad w lo r bs ((numR bs 0 1 p o).1 == 1) (numR bs 0 1 p o).2) := by
  have hn := num_any 0 1 w hE hr
  generalize numR bs 0 1 p o = a at *
  obtain ⟨x, q, o'⟩ := a
  cases hx : (x == 1)
  all_goals
    go_enter Tryd.func30, Tryd.ntmps30
    go_wp2_with fail
    refine hn.mono ?_
    rintro e w1 ⟨rfl, hR, he⟩
    go_wp2_with fail
    go_ret
    exact ⟨by rw [← hx]; rfl, hR, he⟩
def GivesText (ad : Int → Addr) (w : World) (lo r : Nat) (bs : List Int) (p : Nat) (o : Option (Int × Nat)) (s : ByteArray) (e : Ending) (w' : World) : Prop := e = .returned (.string s) ∧ RdrL ad w' lo r bs p o ∧ Eff (· = r) w w'
set_option maxRecDepth 100000 in
set_option maxHeartbeats 800000 in
theorem textErr_any {ad : Int → Addr} {lo r p : Nat} {bs : List Int} {k : Int × Nat} (most : Int) (w : World) (hE : Errs3 ad w) (hr : RdrL ad w lo r bs p (some k)) :
    Calls Tryd.prog 29 #[.pointer (some ⟨r, 0, none⟩), .int .i64 most] w (GivesText ad w lo r bs p (some k) ByteArray.empty) := by
  have hn := num_any 0 most w hE hr
  have hnr : numR bs 0 most p (some k) = (0, p, some k) := rfl
  rw [hnr] at hn
  clear hnr
  have c1 : w.cell? ⟨r, 1, none⟩ = some (.int .i64 p) := by
    obtain ⟨v, h, _⟩ := hr
    obtain ⟨A, c, hb, _⟩ := h.blk
    exact hb.cell 1
  clear hr
  go_enter Tryd.func29, Tryd.ntmps29
  go_wp2_with fail
  refine hn.mono ?_
  rintro e w1 ⟨rfl, hR, he⟩
  have c2 : ∃ B, w1.cell? ⟨r, 2, none⟩ = some (.iface 106 (.pointer (some ⟨B, 0, none⟩))) := by
    obtain ⟨v, h, B, rfl, _⟩ := hR
    obtain ⟨A, c, hb, _⟩ := h.blk
    exact ⟨B, hb.cell 2⟩
  obtain ⟨B, c2⟩ := c2
  clear hn
  go_wp2_with fail
  go_ret
  exact ⟨rfl, hR, he⟩

/-- Bytes behind bytes. -/
theorem wpList_append_sl {ops : Array Oper} {rest : List Oper} {o : Oper} {a : Act} {Q : Exit → Act → World → Prop} {base : Nat} {w : World} {v : Value} {xs ys : List Int} {A : Option Addr} {c : Nat} (hgd : o.guard = none) (s x : Operand)
    (ho : o.op = .call { callee := .builtin .append, args := #[s, x], argTypes := #[23, 23] }) (hs : a.eval s = v) (hown : w.ownsRow base 5 1 v xs.length (xs.map (Value.int .u8)))
    (hx : a.eval x = .slice A ys.length c) (hsl : Sl w A (ys.map (Value.int .u8))) (hA : A = none → c = 0) (hl : xs.length + ys.length ≤ 2000000) (hbase : base ≤ w.heap.size)
    (h : ∀ v' w', w'.ownsRow base 5 1 v' (xs ++ ys).length ((xs ++ ys).map (Value.int .u8)) → Below base w w' → wpList Tryd.prog ops Q rest (a.put o.dst v') w') : wpList Tryd.prog ops Q (o :: rest) a w := by
  obtain ⟨ti, hi, hz, hsz, hby⟩ := info_parts rowBytes.info
  cases A with
  | none =>
    have h0 : ys = [] := by
      rcases hsl with h | ⟨b, o, h, _⟩
      · simpa using h
      · cases h
    subst h0
    rw [hA rfl] at hx
    exact wpList_append_own_none hgd s x 23 ho base 5 ti 1 Tryd.underlying23 hi v xs.length _ hs hown hx (h v w (by simpa using hown) (Below.refl _ _))
  | some ad =>
    refine wpList_append_own w hgd s x 23 ho base 5 ti (.int .u8 0) 1 1 Tryd.underlying23 hi hz hsz hby rfl (by decide) v xs.length _ hs hown ad ys.length c (ys.map (Value.int .u8)) hx (by simp) ?_ (ints_oneCell .u8 ys) (by unfold maxLen; omega) (by omega) hbase ?_
    · intro j u hu
      have hlt : j < (ys.map (Value.int .u8)).length := (List.getElem?_eq_some_iff.1 hu).1
      obtain ⟨b, o, hA', hb, hc⟩ := hsl.at (by omega)
      cases hA'
      rw [show (⟨b, o, none⟩ : Addr).add j = ⟨b, o + j, none⟩ from add_at b o j, hc j hlt, hu]
    · intro v' w' h1 hg _
      exact h v' w' (by simpa using h1) ((Below.refl base w).grown hg hbase (fun k hk => (hown.lt k hk).1))
end Go.Proofs.YtogcbiooddodlaaDoor
