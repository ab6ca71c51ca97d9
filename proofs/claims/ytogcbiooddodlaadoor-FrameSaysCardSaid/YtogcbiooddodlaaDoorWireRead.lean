/- A reader: what is read of it; its first error. -/
import Derived.Test.YtogcbiooddodlaaDoorWireNum
namespace Go.Proofs.YtogcbiooddodlaaDoor
open Go.RowKit
set_option linter.unusedSimpArgs false

theorem It2 {w w' : World} {A : Option Addr} {xs : List Value} (h : Sl w A xs) (hb : Below w.heap.size w w') : Sl w' A xs := by
  rcases h with h | ⟨b, o, hA, hlt, hc⟩
  · exact .inl h
  · exact .inr ⟨b, o, hA, Nat.lt_of_lt_of_le hlt hb.size, fun k hk => (hb.cell (p := ⟨b, o + k, none⟩) hlt).trans (hc k hk)⟩
/-- The first error: none; or its number, and its place. -/
def ErrIs (ad : Int → Addr) (w : World) (r : Nat) (v : Value) : Option (Int × Nat) → Prop
  | none => v = .nilIface
  | some (c, p) => ∃ B, v = .iface 106 (.pointer (some ⟨B, 0, none⟩)) ∧ Blk w B [.int .i64 p, errV ad c] 108 ∧ B ≠ r
def RdrL (ad : Int → Addr) (w : World) (lo r : Nat) (bs : List Int) (p : Nat) (o : Option (Int × Nat)) : Prop := ∃ v, RdrIs w lo r bs p v ∧ ErrIs ad w r v o

set_option maxHeartbeats 800000 in
theorem at_any {lo r p : Nat} {bs : List Int} {v : Value} (w : World) (hr : RdrIs w lo r bs p v) : Calls Tryd.prog 23 #[.pointer (some ⟨r, 0, none⟩)] w fun e w' => e = .returned (.int .i64 p) ∧ w = w' := by
  obtain ⟨A, c, hb, hs, hA⟩ := hr.blk
  have c1 : w.cell? ⟨r, 1, none⟩ = some (.int .i64 p) := hb.cell 1
  clear hb hs hA hr
  go_enter Tryd.func23, Tryd.ntmps23
  go_wp2
  go_ret
  exact ⟨rfl, rfl⟩
theorem errOf_any {lo r p : Nat} {bs : List Int} {v : Value} (w : World) (hr : RdrIs w lo r bs p v) : Calls Tryd.prog 21 #[.pointer (some ⟨r, 0, none⟩)] w fun e w' => e = .returned v ∧ w = w' := by
  obtain ⟨A, c, hb, hs, hA⟩ := hr.blk
  have c1 : w.cell? ⟨r, 2, none⟩ = some v := hb.cell 2
  clear hb hs hA hr
  go_enter Tryd.func21, Tryd.ntmps21
  go_wp2
  go_ret
  exact ⟨rfl, rfl⟩
set_option maxHeartbeats 800000 in
theorem left_any {lo r p : Nat} {bs : List Int} {v : Value} (w : World) (hr : RdrIs w lo r bs p v) : Calls Tryd.prog 25 #[.pointer (some ⟨r, 0, none⟩)] w fun e w' => e = .returned (.int .i64 ((bs.length : Int) - p)) ∧ ∃ q, w' = w.drewN q := by
  obtain ⟨A, c, hb, hs, hA⟩ := hr.blk
  have c0 : w.cell? ⟨r, 0, none⟩ = some (.slice A bs.length c) := hb.cell 0
  have c1 : w.cell? ⟨r, 1, none⟩ = some (.int .i64 p) := hb.cell 1
  have hl := hr.len
  have hle := hr.le
  clear hb hs hA hr
  go_enter Tryd.func25, Tryd.ntmps25
  go_wp2_with fail
  go_region
  go_wp2_with fail
  go_ret
  exact ⟨rfl, 1, rfl⟩

/-- An error more: the reader, with it. -/
def GivesFail (ad : Int → Addr) (w : World) (lo r : Nat) (bs : List Int) (p : Nat) (c : Int) (e : Ending) (w' : World) : Prop := e = .returned (.tuple #[]) ∧ RdrL ad w' lo r bs p (some (c, p)) ∧ Eff (· = r) w w'
theorem fail_done {ad : Int → Addr} {w : World} {lo r p : Nat} {bs : List Int} {v : Value} {c : Int} (hr : RdrIs w lo r bs p v) :
    RdrL ad ((w.setCell ⟨r, 2, none⟩ (.iface 106 (.pointer (some ⟨w.heap.size, 0, none⟩)))).alloc (.cells #[.int .i64 p, errV ad c] 108)) lo r bs p (some (c, p)) ∧
    Eff (· = r) w ((w.setCell ⟨r, 2, none⟩ (.iface 106 (.pointer (some ⟨w.heap.size, 0, none⟩)))).alloc (.cells #[.int .i64 p, errV ad c] 108)) := by
  obtain ⟨A, k, hb, hs, hA⟩ := hr.blk
  have hlt := hb.lt
  have he := (Eff.one r w).set 2 (.iface 106 (.pointer (some ⟨w.heap.size, 0, none⟩)))
  obtain ⟨w1, hw1⟩ : ∃ w1, w1 = w.setCell ⟨r, 2, none⟩ (.iface 106 (.pointer (some ⟨w.heap.size, 0, none⟩))) := ⟨_, rfl⟩
  have hz : w1.heap.size = w.heap.size := by rw [hw1]; simp
  have hb1 := hb.set 2 (.iface 106 (.pointer (some ⟨w.heap.size, 0, none⟩)))
  rw [← hw1] at he hb1 ⊢
  have hbl : Below w1.heap.size w1 (w1.alloc (.cells #[.int .i64 p, errV ad c] 108)) := (Below.refl _ _).alloc (Nat.le_refl _) _
  have hn := Blk.new w1 [.int .i64 p, errV ad c] 108
  rw [hz] at hn
  exact ⟨⟨_, ⟨⟨A, k, hb1.alloc _, It2 (hs.eff he (fun a ha h => by have := hA a ha; omega)) hbl, hA⟩, hr.isb, hr.le, hr.len⟩, w.heap.size, rfl, hn, by omega⟩, he.step (Eff.of_below hbl) (fun _ _ h => h)⟩
set_option maxRecDepth 100000 in
set_option maxHeartbeats 800000 in
theorem fail_any {ad : Int → Addr} {lo r p : Nat} {bs : List Int} {v : Value} (c : Int) (w : World) (hr : RdrIs w lo r bs p v) (hc : c ≠ 0) :
    Calls Tryd.prog 46 #[.pointer (some ⟨r, 0, none⟩), errV ad c] w (GivesFail ad w lo r bs p c) := by
  obtain ⟨A, k, hb, hs, hA⟩ := hr.blk
  have c1 : w.cell? ⟨r, 1, none⟩ = some (.int .i64 p) := hb.cell 1
  have c2 : w.cell? ⟨r, 2, none⟩ = some v := hb.cell 2
  have hlt := hb.lt
  have hf : ∀ o, w.frozen? ⟨r, o, none⟩ = false := hb.frozen
  have HD := hid (fail_done (ad := ad) (c := c) hr)
  rw [errV_ne ad hc] at HD ⊢
  clear hb hs hA hr
  go_enter Tryd.func46, Tryd.ntmps46
  go_wp2_with fail
  go_end0
  exact ⟨rfl, HD.out.1, HD.out.2⟩

/-- What is read, the place then, the first error. -/
def numAt (low high : Int) (p : Nat) : Rd → Int × Nat × Option (Int × Nat)
  | .ends => (0, p, some (101, p))
  | .shape => (0, p, some (102, p))
  | .num n k => if low ≤ n ∧ n ≤ high then (n, p + k, none) else (0, p, some (103, p))
def numR (bs : List Int) (low high : Int) (p : Nat) : Option (Int × Nat) → Int × Nat × Option (Int × Nat)
  | some e => (0, p, some e)
  | none => numAt low high p (rd (bs.drop p) 0 0)
theorem RdrIs.on {w w' : World} {lo r p : Nat} {bs : List Int} {v : Value} (h : RdrIs w lo r bs p v) (hb : Below w.heap.size w w') : RdrIs w' lo r bs p v := by
  obtain ⟨A, k, h1, h2, h3⟩ := h.blk
  exact ⟨⟨A, k, (Eff.of_below (S := fun _ => False) hb).blk h1 (fun h => h), It2 h2 hb, h3⟩, h.isb, h.le, h.len⟩
theorem RdrIs.eff {S : Nat → Prop} {w w' : World} {lo r p : Nat} {bs : List Int} {v : Value} (h : RdrIs w lo r bs p v) (he : Eff S w w') (hS : ∀ k, lo ≤ k → k ≤ r → ¬ S k) (hlo : lo ≤ r) : RdrIs w' lo r bs p v := by
  obtain ⟨A, k, h1, h2, h3⟩ := h.blk
  exact ⟨⟨A, k, he.blk h1 (hS r hlo (Nat.le_refl _)), h2.eff he (fun a ha => hS _ (h3 a ha).1 (Nat.le_of_lt (h3 a ha).2.1)), h3⟩, h.isb, h.le, h.len⟩
theorem RdrIs.move {w : World} {lo r p q : Nat} {bs : List Int} {v : Value} (h : RdrIs w lo r bs p v) (hq : q ≤ bs.length) : RdrIs (w.setCell ⟨r, 1, none⟩ (.int .i64 q)) lo r bs q v := by
  obtain ⟨A, k, h1, h2, h3⟩ := h.blk
  exact ⟨⟨A, k, h1.set 1 _, h2.eff ((Eff.one r w).set 1 _) (fun a ha h => by have := h3 a ha; omega), h3⟩, h.isb, hq, h.len⟩
def GivesNum (ad : Int → Addr) (w : World) (lo r : Nat) (bs : List Int) (a : Int × Nat × Option (Int × Nat)) (e : Ending) (w' : World) : Prop := e = .returned (.int .i64 a.1) ∧ RdrL ad w' lo r bs a.2.1 a.2.2 ∧ Eff (· = r) w w'
theorem rd_len : ∀ (bs : List Int) (i z : Nat) (n : Int) (k : Nat), rd bs i z = .num n k → i < k ∧ k ≤ i + bs.length := by
  intro bs
  induction bs with
  | nil => intro i z n k h; simp [rd] at h
  | cons c cs ih =>
    intro i z n k h
    rw [rd] at h
    split at h
    · cases h
    · split at h
      · have := ih _ _ _ _ h
        simp only [List.length_cons]
        omega
      · split at h
        · cases h
        · simp only [Rd.num.injEq] at h
          simp only [List.length_cons]
          omega
set_option maxRecDepth 100000 in
set_option maxHeartbeats 4000000 in
theorem num_any {ad : Int → Addr} {lo r p : Nat} {bs : List Int} {o : Option (Int × Nat)} (low high : Int) (w : World) (hE : Errs3 ad w) (hr : RdrL ad w lo r bs p o) :
    Calls Tryd.prog 19 #[.pointer (some ⟨r, 0, none⟩), .int .i64 low, .int .i64 high] w (GivesNum ad w lo r bs (numR bs low high p o)) := by
  obtain ⟨v, hr, hv⟩ := hr
  obtain ⟨A, k, hb, hs, hA⟩ := hr.blk
  have c2 : w.cell? ⟨r, 2, none⟩ = some v := hb.cell 2
  have g3 : w.cell? ⟨0, 0, none⟩ = some (.iface 136 (.pointer (some (ad 103)))) := hE.range
  match o, hv with
  | some (c, q), ⟨B, hv, hB, hn⟩ =>
    subst hv
    have HR : Hid (RdrL ad w lo r bs p (some (c, q))) := ⟨_, hr, B, rfl, hB, hn⟩
    clear hb hs hA hr hB hn g3
    go_enter Tryd.func19, Tryd.ntmps19
    go_wp2_with fail
    go_ret
    exact ⟨rfl, HR.out, Eff.refl _ _⟩
  | none, hv =>
    have hv : v = .nilIface := hv
    subst hv
    have hN := number_wire w hE hr
    obtain ⟨out, hrd⟩ : ∃ out, rd (bs.drop p) 0 0 = out := ⟨_, rfl⟩
    rw [hrd] at hN
    have HO : Hid (numR bs low high p none = numAt low high p out) := by rw [Hid, numR, hrd]
    cases out with
    | ends =>
      have hN' : Calls Tryd.prog 45 #[.pointer (some ⟨r, 0, none⟩)] w fun e w' => e = .returned (.tuple #[.int .i64 0, .int .i64 0, .iface 136 (.pointer (some (ad 101)))]) ∧ ∃ q, w' = w.drewN q := hN
      clear hN
      clear hb hs hA g3
      go_enter Tryd.func19, Tryd.ntmps19
      go_wp2_with fail
      refine hN'.mono ?_
      rintro e w1 ⟨rfl, q, rfl⟩
      have hB1 := below_drewN (Below.refl w.heap.size w) q
      have hF := fail_any (ad := ad) 101 _ (hr.on hB1) (by decide)
      rw [errV_ne ad (by decide)] at hF
      clear hN' hr
      go_wp2_with fail
      refine hF.mono ?_
      rintro e w2 ⟨rfl, hR, he⟩
      clear hF
      go_wp2_with fail
      go_ret
      rw [HO.out]
      exact ⟨rfl, hR, (Eff.of_below hB1).step he (fun _ _ h => h)⟩
    | shape =>
      have hN' : Calls Tryd.prog 45 #[.pointer (some ⟨r, 0, none⟩)] w fun e w' => e = .returned (.tuple #[.int .i64 0, .int .i64 0, .iface 136 (.pointer (some (ad 102)))]) ∧ ∃ q, w' = w.drewN q := hN
      clear hN
      clear hb hs hA g3
      go_enter Tryd.func19, Tryd.ntmps19
      go_wp2_with fail
      refine hN'.mono ?_
      rintro e w1 ⟨rfl, q, rfl⟩
      have hB1 := below_drewN (Below.refl w.heap.size w) q
      have hF := fail_any (ad := ad) 102 _ (hr.on hB1) (by decide)
      rw [errV_ne ad (by decide)] at hF
      clear hN' hr
      go_wp2_with fail
      refine hF.mono ?_
      rintro e w2 ⟨rfl, hR, he⟩
      clear hF
      go_wp2_with fail
      go_ret
      rw [HO.out]
      exact ⟨rfl, hR, (Eff.of_below hB1).step he (fun _ _ h => h)⟩
    | num n j =>
      have hN' : Calls Tryd.prog 45 #[.pointer (some ⟨r, 0, none⟩)] w fun e w' => e = .returned (.tuple #[.int .i64 n, .int .i64 j, .nilIface]) ∧ ∃ q, w' = w.drewN q := hN
      have hj := rd_len _ _ _ _ _ hrd
      rw [List.length_drop] at hj
      have c1 : w.cell? ⟨r, 1, none⟩ = some (.int .i64 p) := hb.cell 1
      have hf : ∀ o, w.frozen? ⟨r, o, none⟩ = false := hb.frozen
      have hle := hr.le
      have hlen := hr.len
      clear hN hb hs hA hrd
      by_cases hl : n < low
      · clear c1 hf
        have hz : numAt low high p (.num n j) = (0, p, some (103, p)) := if_neg (fun h => by omega)
        rw [hz] at HO
        clear hz
        go_enter Tryd.func19, Tryd.ntmps19
        go_wp2_with fail
        refine hN'.mono ?_
        rintro e w1 ⟨rfl, q, rfl⟩
        have hB1 := below_drewN (Below.refl w.heap.size w) q
        have hF := fail_any (ad := ad) 103 _ (hr.on hB1) (by decide)
        rw [errV_ne ad (by decide)] at hF
        clear hN' hr
        go_wp2_with fail
        refine hF.mono ?_
        rintro e w2 ⟨rfl, hR, he⟩
        clear hF
        go_wp2_with fail
        go_ret
        rw [HO.out]
        exact ⟨rfl, hR, (Eff.of_below hB1).step he (fun _ _ h => h)⟩
      · have hl' : low ≤ n := by omega
        by_cases hh : high < n
        · clear c1 hf
          have hz : numAt low high p (.num n j) = (0, p, some (103, p)) := if_neg (fun h => by omega)
          rw [hz] at HO
          clear hz
          go_enter Tryd.func19, Tryd.ntmps19
          go_wp2_with fail
          refine hN'.mono ?_
          rintro e w1 ⟨rfl, q, rfl⟩
          have hB1 := below_drewN (Below.refl w.heap.size w) q
          have hF := fail_any (ad := ad) 103 _ (hr.on hB1) (by decide)
          rw [errV_ne ad (by decide)] at hF
          clear hN' hr
          go_wp2_with fail
          refine hF.mono ?_
          rintro e w2 ⟨rfl, hR, he⟩
          clear hF
          go_wp2_with fail
          go_ret
          rw [HO.out]
          exact ⟨rfl, hR, (Eff.of_below hB1).step he (fun _ _ h => h)⟩
        · have hh' : n ≤ high := by omega
          have hz : numAt low high p (.num n j) = (n, p + j, none) := if_pos ⟨hl', hh'⟩
          rw [hz] at HO
          clear hz g3
          have hpj : p + j ≤ bs.length := by omega
          go_enter Tryd.func19, Tryd.ntmps19
          go_wp2_with fail
          refine hN'.mono ?_
          rintro e w1 ⟨rfl, q, rfl⟩
          have hB1 := below_drewN (Below.refl w.heap.size w) q
          have hR := (hr.on hB1).move hpj
          clear hN' hr
          go_wp2_with fail
          go_ret
          rw [HO.out]
          exact ⟨rfl, ⟨_, hR, rfl⟩, (Eff.of_below hB1).step ((Eff.one r _).set 1 _) (fun _ _ h => h)⟩
end Go.Proofs.YtogcbiooddodlaaDoor
