/- The document's table of who is alive: what its functions do to memory. -/
import Derived.Test.YtlihiiaabfkhaaaLiveFirst
namespace Go.Proofs.Ytlihiiaabfkhaaa
open Go.RowKit

/-! Plain facts on five rows of numbers. -/
theorem map_get {α : Type} (f : One → α) {l : List One} {k : Nat} (h : k < l.length) : (l.map f)[k]? = some (f (l.getD k One.zero)) := by
  simp [List.getD_eq_getElem?_getD, List.getElem?_eq_getElem h]
section
variable {A B C D E R : List Value} (a : A.length = 16) (b : B.length = 16) (c : C.length = 16) (d : D.length = 16) (e : E.length = 16) {k : Nat} (hk : k < 16) (v : Value)
include a hk
theorem get_row1 : (A ++ R)[k]? = A[k]? := List.getElem?_append_left (by omega)
theorem set_row1 : (A ++ R).set k v = A.set k v ++ R := List.set_append_left _ _ (by omega)
include b
theorem get_row2 : (A ++ (B ++ R))[16 + k]? = B[k]? := by
  rw [List.getElem?_append_right (by omega), a, Nat.add_sub_cancel_left, get_row1 b hk]
theorem set_row2 : (A ++ (B ++ R)).set (16 + k) v = A ++ (B.set k v ++ R) := by
  rw [List.set_append_right _ _ (by omega), a, Nat.add_sub_cancel_left, set_row1 b hk]
include c
theorem get_row3 : (A ++ (B ++ (C ++ R)))[32 + k]? = C[k]? := by
  rw [List.getElem?_append_right (by omega), a, show 32 + k - 16 = 16 + k from by omega, get_row2 b c hk]
theorem set_row3 : (A ++ (B ++ (C ++ R))).set (32 + k) v = A ++ (B ++ (C.set k v ++ R)) := by
  rw [List.set_append_right _ _ (by omega), a, show 32 + k - 16 = 16 + k from by omega, set_row2 b c hk]
include d
theorem get_row4 : (A ++ (B ++ (C ++ (D ++ R))))[48 + k]? = D[k]? := by
  rw [List.getElem?_append_right (by omega), a, show 48 + k - 16 = 32 + k from by omega, get_row3 b c d hk]
theorem set_row4 : (A ++ (B ++ (C ++ (D ++ R)))).set (48 + k) v = A ++ (B ++ (C ++ (D.set k v ++ R))) := by
  rw [List.set_append_right _ _ (by omega), a, show 48 + k - 16 = 32 + k from by omega, set_row3 b c d hk]
include e
theorem get_row5 : (A ++ (B ++ (C ++ (D ++ (E ++ R)))))[64 + k]? = E[k]? := by
  rw [List.getElem?_append_right (by omega), a, show 64 + k - 16 = 48 + k from by omega, get_row4 b c d e hk]
theorem set_row5 : (A ++ (B ++ (C ++ (D ++ (E ++ R))))).set (64 + k) v = A ++ (B ++ (C ++ (D ++ (E.set k v ++ R)))) := by
  rw [List.set_append_right _ _ (by omega), a, show 64 + k - 16 = 48 + k from by omega, set_row4 b c d e hk]
end
theorem map_len {l : List One} (h : l.length = 16) (f : One → Value) : (l.map f).length = 16 := by simpa using h
theorem map_set_len {l : List One} (h : l.length = 16) (f : One → Value) (k : Nat) (v : Value) : ((l.map f).set k v).length = 16 := by simpa using h

section
variable {t : Tab} (h : t.l.length = 16) {k : Nat} (hk : k < 16)
include h hk
theorem ref_life : t.refCells[k]? = some (.int .i64 (t.at k).life) := (get_row1 (map_len h _) hk).trans (map_get _ (by omega))
theorem ref_known : t.refCells[16 + k]? = some (.bool (t.at k).known) := (get_row2 (map_len h _) (map_len h _) hk).trans (map_get _ (by omega))
theorem ref_heard : t.refCells[32 + k]? = some (.bool (t.at k).heard) := (get_row3 (map_len h _) (map_len h _) (map_len h _) hk).trans (map_get _ (by omega))
theorem ref_out : t.refCells[48 + k]? = some (.bool (t.at k).out) := (get_row4 (map_len h _) (map_len h _) (map_len h _) (map_len h _) hk).trans (map_get _ (by omega))
theorem ref_age : t.refCells[64 + k]? = some (.int .i64 (t.at k).age) := (get_row5 (map_len h _) (map_len h _) (map_len h _) (map_len h _) (map_len h _) hk).trans (map_get _ (by omega))
end
theorem ref_len {t : Tab} (h : t.l.length = 16) : t.refCells.length = 81 := by simp [Tab.refCells, h]
theorem ref_split {t : Tab} : t.refCells = (t.l.map (fun o => Value.int .i64 o.life) ++ (t.l.map (fun o => Value.bool o.known) ++ (t.l.map (fun o => Value.bool o.heard) ++ (t.l.map (fun o => Value.bool o.out) ++ t.l.map (fun o => Value.int .i64 o.age))))) ++ [.int .i64 t.seen] := by
  simp [Tab.refCells]
theorem ref_seen {t : Tab} (h : t.l.length = 16) : t.refCells[80]? = some (.int .i64 t.seen) := by
  rw [ref_split, List.getElem?_append_right (by simp [h])]
  simp [h]
theorem ref_set_seen {t : Tab} (h : t.l.length = 16) (s : Int) : t.refCells.set 80 (.int .i64 s) = (Tab.mk t.l s).refCells := by
  rw [ref_split, List.set_append_right _ _ (by simp [h]), ref_split]
  simp [h]
/-- The k-th field of each row is set: of each row by itself. -/
theorem ref_put {t : Tab} (h : t.l.length = 16) {k : Nat} (hk : k < 16) (o : One) :
    (((((t.refCells.set (16 + k) (.bool o.known)).set k (.int .i64 o.life)).set (32 + k) (.bool o.heard)).set (48 + k) (.bool o.out)).set (64 + k) (.int .i64 o.age)) = (t.put k o).refCells := by
  have m := fun f => map_len h f
  have s := fun f v => map_set_len h f k v
  unfold Tab.refCells
  rw [set_row2 (m _) (m _) hk, set_row1 (m _) hk, set_row3 (s _ _) (s _ _) (m _) hk, set_row4 (s _ _) (s _ _) (s _ _) (m _) hk, set_row5 (s _ _) (s _ _) (s _ _) (s _ _) (m _) hk]
  simp [Tab.put, List.map_set]
theorem map_same {t : Tab} (h : t.l.length = 16) {k : Nat} (hk : k < 16) (f : One → Value) (o : One) (e : f o = f (t.at k)) : (t.l.set k o).map f = t.l.map f := by
  rw [List.map_set, e]
  have : (t.l.map f)[k]? = some (f (t.at k)) := map_get f (by omega)
  apply List.ext_getElem?
  intro i
  rw [List.getElem?_set]
  by_cases hi : k = i
  · subst hi
    rw [if_pos rfl, if_pos (by simp; omega), this]
  · rw [if_neg hi]
theorem ref_set_age {t : Tab} (h : t.l.length = 16) {k : Nat} (hk : k < 16) (a : Int) : t.refCells.set (64 + k) (.int .i64 a) = (t.put k { t.at k with age := a }).refCells := by
  have m := fun f => map_len h f
  unfold Tab.refCells Tab.put
  rw [set_row5 (m _) (m _) (m _) (m _) (m _) hk]
  simp only
  have e := fun f => map_same h hk f { t.at k with age := a }
  rw [e (fun o => Value.int .i64 o.life) rfl, e (fun o => Value.bool o.known) rfl, e (fun o => Value.bool o.heard) rfl, e (fun o => Value.bool o.out) rfl, List.map_set]
theorem ref_set_heard {t : Tab} (h : t.l.length = 16) {k : Nat} (hk : k < 16) (x : Bool) : t.refCells.set (32 + k) (.bool x) = (t.put k { t.at k with heard := x }).refCells := by
  have m := fun f => map_len h f
  unfold Tab.refCells Tab.put
  rw [set_row3 (m _) (m _) (m _) hk]
  simp only
  have e := fun f => map_same h hk f { t.at k with heard := x }
  rw [e (fun o => Value.int .i64 o.life) rfl, e (fun o => Value.bool o.known) rfl, e (fun o => Value.bool o.out) rfl, e (fun o => Value.int .i64 o.age) rfl, List.map_set]

theorem ref_hear_put {b : Nat} {t : Tab} {w : World} (hb : Blk w b t.refCells 46) (hl : t.l.length = 16) {k : Nat} (hk : k < 16) (out : Bool) (life : Int) : ∀ seen : Int,
    Blk ((((((w.setCell ⟨b, 16 + k, none⟩ (.bool true)).setCell ⟨b, k, none⟩ (.int .i64 life)).setCell ⟨b, 32 + k, none⟩ (.bool true)).setCell ⟨b, 48 + k, none⟩ (.bool out)).setCell ⟨b, 64 + k, none⟩ (.int .i64 0)).setCell ⟨b, 80, none⟩ (.int .i64 seen))
      b (Tab.mk (t.l.set k ⟨true, true, out, life, 0⟩) seen).refCells 46 ∧
    Eff (· = b) w ((((((w.setCell ⟨b, 16 + k, none⟩ (.bool true)).setCell ⟨b, k, none⟩ (.int .i64 life)).setCell ⟨b, 32 + k, none⟩ (.bool true)).setCell ⟨b, 48 + k, none⟩ (.bool out)).setCell ⟨b, 64 + k, none⟩ (.int .i64 0)).setCell ⟨b, 80, none⟩ (.int .i64 seen)) := by
  intro seen
  refine ⟨?_, (((((Eff.one b w).set _ _).set _ _).set _ _).set _ _).set _ _ |>.set _ _⟩
  have h := (((((hb.set (16 + k) (.bool true)).set k (.int .i64 life)).set (32 + k) (.bool true)).set (48 + k) (.bool out)).set (64 + k) (.int .i64 0)).set 80 (.int .i64 seen)
  have e := ref_put hl hk ⟨true, true, out, life, 0⟩
  rw [e, ref_set_seen (by simpa [Tab.put] using hl)] at h
  exact h

set_option maxHeartbeats 800000 in
theorem refHear_yes {b : Nat} {t : Tab} (ht : t.ok) (n life seen : Int) (out : Bool) (w : World) (hb : Blk w b t.refCells 46) (hy : t.takes n life seen = true) :
    Calls Try.prog 17 #[.pointer (some ⟨b, 0, none⟩), .int .i64 n, .int .i64 life, .int .i64 seen, .bool out] w fun e w' =>
      e = .returned (.bool true) ∧ Blk w' b (t.hear n life seen out).refCells 46 ∧ Eff (· = b) w w' := by
  have hh : (t.hear n life seen out) = ⟨t.l.set n.toNat ⟨true, true, out, life, 0⟩, max t.seen seen⟩ := by simp [Tab.hear, hy]
  rw [hh]
  clear hh
  simp only [Tab.takes, Bool.and_eq_true, decide_eq_true_eq, Bool.not_eq_true', Bool.and_eq_false_iff, decide_eq_false_iff_not] at hy
  obtain ⟨⟨⟨⟨h0, h1⟩, h2⟩, h3⟩, h4⟩ := hy
  have hl := ht.1
  have hk : n.toNat < 16 := by omega
  have c0 : w.cell? ⟨b, n.toNat, none⟩ = some (.int .i64 (t.at n.toNat).life) := hb.cell_some (ref_life hl hk)
  have c1 : w.cell? ⟨b, 16 + n.toNat, none⟩ = some (.bool (t.at n.toNat).known) := hb.cell_some (ref_known hl hk)
  have c2 : w.cell? ⟨b, 32 + n.toNat, none⟩ = some (.bool (t.at n.toNat).heard) := hb.cell_some (ref_heard hl hk)
  have c3 : w.cell? ⟨b, 48 + n.toNat, none⟩ = some (.bool (t.at n.toNat).out) := hb.cell_some (ref_out hl hk)
  have c4 : w.cell? ⟨b, 64 + n.toNat, none⟩ = some (.int .i64 (t.at n.toNat).age) := hb.cell_some (ref_age hl hk)
  have c5 : w.cell? ⟨b, 80, none⟩ = some (.int .i64 t.seen) := hb.cell_some (ref_seen hl)
  have hf : ∀ o, w.frozen? ⟨b, o, none⟩ = false := hb.frozen
  have hp := ref_hear_put hb hl hk out life
  clear hb hl ht
  obtain ⟨m, hm⟩ : ∃ m, (if t.seen < seen then seen else t.seen) = m := ⟨_, rfl⟩
  have HM : Hid (max t.seen seen = m) := by rw [Hid, ← hm]; omega
  cases hkn : (t.at n.toNat).known with
  | false =>
    rw [hkn] at c1
    clear h4 hkn
    go_enter Try.func17, Try.ntmps17
    go_wp2
    go_ret
    rw [HM.out]
    exact ⟨rfl, hp _⟩
  | true =>
    rw [hkn] at c1
    have h5 : ¬ life < (t.at n.toNat).life := by simpa [hkn] using h4
    clear h4 hkn
    go_enter Try.func17, Try.ntmps17
    go_wp2
    go_ret
    rw [HM.out]
    exact ⟨rfl, hp _⟩

set_option maxHeartbeats 800000 in
theorem refHear_no {b : Nat} {t : Tab} (ht : t.ok) (n life seen : Int) (out : Bool) (w : World) (hb : Blk w b t.refCells 46) (hy : t.takes n life seen = false) :
    Calls Try.prog 17 #[.pointer (some ⟨b, 0, none⟩), .int .i64 n, .int .i64 life, .int .i64 seen, .bool out] w fun e w' =>
      e = .returned (.bool false) ∧ w = w' := by
  by_cases h0 : n < 0
  · clear hy ht
    go_enter Try.func17, Try.ntmps17
    go_wp2
    go_ret
    exact ⟨rfl, rfl⟩
  by_cases h1 : 16 ≤ n
  · clear hy ht
    go_enter Try.func17, Try.ntmps17
    go_wp2
    go_ret
    exact ⟨rfl, rfl⟩
  by_cases h2 : life < 0
  · clear hy ht
    go_enter Try.func17, Try.ntmps17
    go_wp2
    go_ret
    exact ⟨rfl, rfl⟩
  by_cases h3 : seen < 0
  · clear hy ht
    go_enter Try.func17, Try.ntmps17
    go_wp2
    go_ret
    exact ⟨rfl, rfl⟩
  have hl := ht.1
  have hk : n.toNat < 16 := by omega
  have c0 : w.cell? ⟨b, n.toNat, none⟩ = some (.int .i64 (t.at n.toNat).life) := hb.cell_some (ref_life hl hk)
  have c1 : w.cell? ⟨b, 16 + n.toNat, none⟩ = some (.bool (t.at n.toNat).known) := hb.cell_some (ref_known hl hk)
  have h4 : 0 ≤ n := by omega
  have h5 : n < 16 := by omega
  have h6 : 0 ≤ life := by omega
  have h7 : 0 ≤ seen := by omega
  simp [Tab.takes, h4, h5, h6, h7] at hy
  obtain ⟨hy1, hy2⟩ := hy
  rw [hy1] at c1
  clear hl hy1 ht
  go_enter Try.func17, Try.ntmps17
  go_wp2
  go_ret
  exact ⟨rfl, rfl⟩

def RefTickRel (t : Tab) (b : Nat) (w : World) (i : Value) (wr : World) : Prop := ∃ k : Nat, k ≤ 16 ∧ i = .int .i64 k ∧ Blk wr b (t.tickTo k).refCells 46 ∧ Eff (· = b) w wr

set_option maxHeartbeats 800000 in
theorem refTick_any {b : Nat} {t : Tab} (ht : t.ok) (w : World) (hb : Blk w b t.refCells 46) :
    Calls Try.prog 18 #[.pointer (some ⟨b, 0, none⟩)] w fun e w' => e = .returned (.tuple #[]) ∧ Blk w' b t.tick.refCells 46 ∧ Eff (· = b) w w' := by
  have HL := hid ht.1
  go_enter Try.func18, Try.ntmps18
  go_wp2
  go_loopw [2] (fun i wr => RefTickRel t b w i wr) (fun i _ => 16 - (intOf i).toNat)
  case atStart => exact ⟨0, by omega, rfl, by rw [Tab.tickTo_zero]; exact hb, Eff.refl _ _⟩
  case round =>
    obtain ⟨k, hk, rfl, hbr, he⟩ := hrel
    by_cases hlt : k < 16
    · have hkl : k < t.l.length := by rw [HL.out]; exact hlt
      have hlen : (t.tickTo k).l.length = 16 := by rw [Tab.tickTo_len, HL.out]
      have hkr : k < (t.tickTo k).l.length := by omega
      have hat := Tab.tickTo_at t hkl
      have c1 : wr.cell? ⟨b, 32 + k, none⟩ = some (.bool (t.at k).heard) := hat ▸ hbr.cell_some (ref_heard hlen hlt)
      have c4 : wr.cell? ⟨b, 64 + k, none⟩ = some (.int .i64 (t.at k).age) := hat ▸ hbr.cell_some (ref_age hlen hlt)
      have hf : ∀ o, wr.frozen? ⟨b, o, none⟩ = false := hbr.frozen
      obtain ⟨a0, a1, a2⟩ := Tab.at_ok ht hlt
      have HS := hid (Tab.tickTo_succ t hkl)
      have HA := hid hat
      clear hat
      cases hh : (t.at k).heard with
      | false =>
        rw [hh] at c1
        have HH := hid hh
        clear hh hlen
        go_wp2
        go_roundw
        case rel =>
          refine ⟨k + 1, by omega, by go_num, ?_, he⟩
          have e : (t.at k).tick = t.at k := by simp [One.tick, HH.out]
          rw [HS.out, e, ← HA.out, put_self hkr]
          exact hbr
        case measure => simp [intOf]; omega
      | true =>
        rw [hh] at c1
        have a3 := a2 hh
        have hp := (hbr.set (64 + k) (.int .i64 ((t.at k).age + 1))).set (32 + k) (.bool (decide ((t.at k).age + 1 ≤ 3)))
        rw [ref_set_age hlen hlt, ref_set_heard (by simpa [Tab.put] using hlen) hlt, Tab.put_put, Tab.at_put _ hkr, HA.out] at hp
        have hp2 : Blk ((wr.setCell ⟨b, 64 + k, none⟩ (.int .i64 ((t.at k).age + 1))).setCell ⟨b, 32 + k, none⟩ (.bool (decide ((t.at k).age + 1 ≤ 3)))) b ((t.tickTo k).put k (t.at k).tick).refCells 46 := by
          have e : (t.at k).tick = { t.at k with age := (t.at k).age + 1, heard := decide ((t.at k).age + 1 ≤ 3) } := by simp [One.tick, hh]
          rw [e]
          exact hp
        have HP := hid hp2
        clear hp hp2 hh hlen
        have hki : (0 : Int) ≤ k := by omega
        have hki2 : (k : Int) < 16 := by omega
        go_wp2
        go_region
        go_wp2
        go_region
        go_wp2
        go_roundw
        case rel =>
          refine ⟨k + 1, by omega, by go_num, ?_, ((he.set _ _).set _ _).drew.drew⟩
          rw [HS.out]
          exact HP.out
        case measure => simp [intOf]; omega
    · have hk16 : k = 16 := by omega
      subst hk16
      go_wp2
      go_end0
      rw [Tab.tickTo_all t HL.out] at hbr
      exact ⟨rfl, hbr, he⟩
end Go.Proofs.Ytlihiiaabfkhaaa
