/- Frames: what is read of bytes (several texts in one). -/
import Derived.Test.YtogcbiooddodlaaDoorFrameLaid
import Derived.Test.YtogcbiooddodlaaDoorWireMore
import Derived.Test.YtogcbiooddodlaaDoorFrameRingsPure
namespace Go.Proofs.YtogcbiooddodlaaDoor
open Go.RowKit
set_option linter.unusedSimpArgs false


/-- A reader's place, and its first error. -/
abbrev RS := Nat × Option (Int × Nat)
def numS (bs : List Int) (low high : Int) (s : RS) : Int × RS := numR bs low high s.1 s.2
def memsR (bs : List Int) : Nat → RS → List Int × RS
  | 0, s => ([], s)
  | k + 1, s => ((memsR bs k s).1 ++ [(numS bs 0 15 (memsR bs k s).2).1], (numS bs 0 15 (memsR bs k s).2).2)
def bidR (bs : List Int) (s : RS) : (Int × Int) × RS := (((numS bs 0 15 s).1, (numS bs 0 1048576 (numS bs 0 15 s).2).1), (numS bs 0 1048576 (numS bs 0 15 s).2).2)
def bidsR (bs : List Int) : Nat → RS → List (Int × Int) × RS
  | 0, s => ([], s)
  | k + 1, s => ((bidsR bs k s).1 ++ [(bidR bs (bidsR bs k s).2).1], (bidR bs (bidsR bs k s).2).2)
abbrev EntP := Int × Int × Int × Int × List (Int × Int)
def entR (bs : List Int) (n : Int) (s : RS) : EntP × RS :=
  let a := numS bs 0 63 s
  let b := numS bs (-1) 1 a.2
  let c := numS bs 1 2147483647 b.2
  let d := numS bs (-1) 15 c.2
  let e := numS bs 0 n d.2
  let x := bidsR bs e.1.toNat e.2
  ((a.1, b.1, c.1, d.1, x.1), x.2)
def entsR (bs : List Int) (n : Int) : Nat → RS → List EntP × RS
  | 0, s => ([], s)
  | k + 1, s => if (entsR bs n k s).2.2 = none then ((entsR bs n k s).1 ++ [(entR bs n (entsR bs n k s).2).1], (entR bs n (entsR bs n k s).2).2) else entsR bs n k s
def ringR (bs : List Int) (s : RS) : RingP × RS :=
  let a := numS bs 1 4294967295 s
  let b := numS bs 0 15 a.2
  let c := numS bs 0 1099511627776 b.2
  let d := numS bs 0 16 c.2
  let m := memsR bs d.1.toNat d.2
  let e := numS bs 0 128 m.2
  let x := entsR bs d.1 e.1.toNat e.2
  ((a.1, b.1, c.1, m.1, x.1), x.2)
def beatR (bs : List Int) (s : RS) : FrameP × RS :=
  let f := numS bs 0 15 s
  let t := numS bs 0 15 f.2
  let l := numS bs 0 281474976710655 t.2
  let e := numS bs 0 281474976710655 l.2
  let o := numS bs 0 1 e.2
  ((1, f.1, t.1, l.1, e.1, o.1 == 1, 0, 0, 0, [], []), o.2)
def tokR (bs : List Int) (s : RS) : FrameP × RS :=
  let f := numS bs 0 15 s
  let t := numS bs 0 15 f.2
  let r := ringR bs t.2
  ((2, f.1, t.1, 0, 0, false, r.1), r.2)
/-- An entry, a frame, from its plain data. -/
def unpl (e : EntP) : EntL := ⟨e.1, e.2.1, e.2.2.1, e.2.2.2.1, e.2.2.2.2, none, 0⟩
theorem unpl_pl (e : EntL) : unpl e.pl = e.strip := rfl
theorem pl_unpl (e : EntP) : (unpl e).pl = e := rfl
def frameEP (f : FrameP) : Int := frameE f.1 f.2.1 f.2.2.1 f.2.2.2.1 f.2.2.2.2.1 f.2.2.2.2.2.1 f.2.2.2.2.2.2.1 f.2.2.2.2.2.2.2.1 f.2.2.2.2.2.2.2.2.1 f.2.2.2.2.2.2.2.2.2.1 (f.2.2.2.2.2.2.2.2.2.2.map unpl)
theorem map_unpl (es : List EntL) : (es.map EntL.pl).map unpl = es.map EntL.strip := by rw [List.map_map]; rfl
theorem frameEP_pl (f : FrL) : frameEP f.pl = frameE f.kind f.fr f.tt f.life f.seen f.out f.count f.founder f.hop f.ms f.es := by
  unfold frameEP
  simp only [FrL.pl]
  rw [map_unpl, frameE_strip]
/-- What Read answers. -/
inductive RF where
  | bare (c : Int)
  | at (c : Int) (p : Nat)
  | ok (f : FrameP)
def endR (bs : List Int) (x : FrameP × RS) : RF := match x.2.2 with
  | some (c, p) => .at c p
  | none => if x.2.1 < bs.length then .bare 102 else if frameEP x.1 ≠ 0 then .bare (frameEP x.1) else .ok x.1
def readR (bs : List Int) : RF :=
  if bs.length = 0 ∨ bs.getD 0 0 ≠ 80 then .bare 102
  else if bs.length < 2 ∨ (bs.getD 1 0 ≠ 1 ∧ bs.getD 1 0 ≠ 2) then .bare 107
  else if bs.getD 1 0 = 1 then endR bs (beatR bs (2, none)) else endR bs (tokR bs (2, none))

/-! Just what was laid. -/
theorem rd_inv : ∀ (cs : List Int) (i z : Nat) (n : Int) (k : Nat), IsB cs → rd cs i z = .num n k → ∃ y rest, cs = form y ++ rest ∧ k = i + (form y).length ∧ n = unzz (z + y * 2 ^ (7 * i)) ∧ (0 < i → 0 < y) := by
  intro cs
  induction cs with
  | nil => intro i z n k _ h; cases h
  | cons c cs ih =>
    intro i z n k hb h
    rw [rd] at h
    have hc := hb c (by simp)
    split at h
    · cases h
    split at h
    · rename_i h1 h2
      obtain ⟨y, rest, rfl, hk, hn, hy⟩ := ih (i + 1) _ n k (fun b hm => hb b (by simp [hm])) h
      have hy1 := hy (by omega)
      have hbig : ¬ (c.toNat % 128 + 128 * y) < 128 := by omega
      refine ⟨c.toNat % 128 + 128 * y, rest, ?_, ?_, ?_, fun _ => by omega⟩
      · rw [form_big hbig, show (c.toNat % 128 + 128 * y) / 128 = y from by omega, show (((c.toNat % 128 + 128 * y) % 128 + 128 : Nat) : Int) = c from by omega]
        rfl
      · rw [form_big hbig, show (c.toNat % 128 + 128 * y) / 128 = y from by omega, List.length_cons]
        omega
      · rw [hn, show 7 * (i + 1) = 7 * i + 7 from by omega, Nat.pow_add, show (2 : Nat) ^ 7 = 128 from rfl, Nat.add_mul, Nat.mul_comm 128 y, Nat.mul_assoc y 128, Nat.mul_comm 128 (2 ^ (7 * i)), Nat.add_assoc]
    · rename_i h1 h2
      split at h
      · cases h
      rename_i h3
      injection h with hn hk
      refine ⟨c.toNat, cs, ?_, ?_, ?_, fun hi => ?_⟩
      · rw [form_small (by omega), show ((c.toNat : Nat) : Int) = c from by omega]
        rfl
      · rw [form_small (by omega)]
        simpa using hk.symm
      · rw [← hn, show c.toNat % 128 = c.toNat from by omega]
      · rcases Nat.eq_zero_or_pos c.toNat with h0 | h0
        · exact absurd ⟨by omega, hi⟩ h3
        · exact h0
/-- From one place to another one there are just these numbers. -/
structure Rds (bs : List Int) (s : RS) (ns : List Int) (t : RS) : Prop where
  s0 : s.2 = none
  t0 : t.2 = none
  le : t.1 ≤ bs.length
  at_ : t.1 = s.1 + (cat ns).length
  drop : bs.drop s.1 = cat ns ++ bs.drop t.1
theorem Rds.nil {bs : List Int} {s : RS} (h0 : s.2 = none) (hl : s.1 ≤ bs.length) : Rds bs s [] s := ⟨h0, h0, hl, by simp [cat], by simp [cat]⟩
theorem Rds.trans {bs : List Int} {s t u : RS} {a b : List Int} (h : Rds bs s a t) (k : Rds bs t b u) : Rds bs s (a ++ b) u :=
  ⟨h.s0, k.t0, k.le, by rw [k.at_, h.at_, cat_append, List.length_append]; omega, by rw [h.drop, k.drop, cat_append, List.append_assoc]⟩
theorem Rds.split {bs : List Int} {s u : RS} {a b : List Int} (h : Rds bs s (a ++ b) u) : ∃ t, Rds bs s a t ∧ Rds bs t b u := by
  have h1 := h.drop
  have h2 := h.at_
  rw [cat_append, List.length_append] at h2
  rw [cat_append, List.append_assoc] at h1
  have h3 : bs.drop (s.1 + (cat a).length) = cat b ++ bs.drop u.1 := by
    rw [← List.drop_drop, h1, List.drop_left]
  have h4 := h.le
  exact ⟨(s.1 + (cat a).length, none), ⟨h.s0, rfl, by show s.1 + (cat a).length ≤ _; omega, rfl, by rw [h1, h3]⟩, ⟨rfl, h.t0, h.le, by show u.1 = s.1 + (cat a).length + _; omega, h3⟩⟩
theorem Rds.same {bs : List Int} {s t u : RS} {a : List Int} (h : Rds bs s a t) (k : Rds bs s a u) : t = u := by
  obtain ⟨t1, t2⟩ := t
  obtain ⟨u1, u2⟩ := u
  have h1 := h.at_
  have h2 := k.at_
  have h3 := h.t0
  have h4 := k.t0
  simp only at h1 h2 h3 h4
  rw [h1, h2, h3, h4]
theorem num_out {bs : List Int} {low high v : Int} {s t : RS} (hB : IsB bs) (hs : s.1 ≤ bs.length) (h : numS bs low high s = (v, t)) (h0 : t.2 = none) : Rds bs s [v] t ∧ low ≤ v ∧ v ≤ high := by
  obtain ⟨p, o⟩ := s
  unfold numS at h
  cases o with
  | some e => rw [numR] at h; rw [← (Prod.mk.inj h).2] at h0; cases h0
  | none =>
    simp only [numR] at h
    cases hr : rd (bs.drop p) 0 0 with
    | ends => rw [hr] at h; rw [← (Prod.mk.inj h).2] at h0; cases h0
    | shape => rw [hr] at h; rw [← (Prod.mk.inj h).2] at h0; cases h0
    | num n k =>
      rw [hr] at h
      by_cases hlh : low ≤ n ∧ n ≤ high
      · rw [numAt, if_pos hlh] at h
        obtain ⟨rfl, rfl⟩ := Prod.mk.inj h
        obtain ⟨y, rest, hd, hk, hn, _⟩ := rd_inv _ 0 0 n k (fun b hb => hB b (List.mem_of_mem_drop hb)) hr
        have hz : zz n = y := by
          rw [hn, show 0 + y * 2 ^ (7 * 0) = y from by omega]
          exact zz_unzz y
        have hk' : k = (form y).length := by omega
        have hlen := congrArg List.length hd
        rw [List.length_drop, List.length_append] at hlen
        have hdk : bs.drop (p + k) = rest := by rw [← List.drop_drop, hd, hk', List.drop_left]
        refine ⟨⟨rfl, rfl, by show p + k ≤ _; simp only at hs; omega, ?_, ?_⟩, hlh⟩
        · show p + k = p + (cat [n]).length
          simp [cat, hz, hk']
        · show bs.drop p = cat [n] ++ bs.drop (p + k)
          rw [hdk, hd]
          simp [cat, hz]
      · rw [numAt, if_neg hlh] at h
        rw [← (Prod.mk.inj h).2] at h0
        cases h0
theorem num_in {bs : List Int} {low high v : Int} {s t : RS} (hI : inI v) (h : Rds bs s [v] t) (h1 : low ≤ v) (h2 : v ≤ high) : numS bs low high s = (v, t) := by
  obtain ⟨p, o⟩ := s
  obtain ⟨q, o'⟩ := t
  have e1 : o = none := h.s0
  have e2 : o' = none := h.t0
  subst e1 e2
  have hd : bs.drop p = form (zz v) ++ bs.drop q := by
    have := h.drop
    simpa [cat] using this
  have hq : q = p + (form (zz v)).length := by
    have := h.at_
    simpa [cat] using this
  show numR bs low high p none = _
  rw [numR, hd, rd_form hI, numAt, if_pos ⟨h1, h2⟩, ← hq]

theorem snoc {α : Type} {l : List α} {k : Nat} (h : l.length = k + 1) : ∃ a x, l = a ++ [x] ∧ a.length = k := by
  have hne : l ≠ [] := fun e => by rw [e] at h; cases h
  exact ⟨l.dropLast, l.getLast hne, (List.dropLast_concat_getLast hne).symm, by rw [List.length_dropLast]; omega⟩
theorem numS_le {bs : List Int} {low high : Int} {s : RS} (h : s.1 ≤ bs.length) : (numS bs low high s).2.1 ≤ bs.length := by
  obtain ⟨p, o⟩ := s
  unfold numS
  cases o with
  | some e => exact h
  | none =>
    simp only [numR]
    cases hr : rd (bs.drop p) 0 0 with
    | ends => exact h
    | shape => exact h
    | num n k =>
      rw [numAt]
      split
      · have := rd_len _ _ _ _ _ hr
        rw [List.length_drop] at this
        simp only at h ⊢
        omega
      · exact h
theorem numS_err {bs : List Int} {low high : Int} {s : RS} (h : s.2 ≠ none) : numS bs low high s = (0, s) := by
  obtain ⟨p, o⟩ := s
  cases o with
  | none => exact absurd rfl h
  | some e => rfl
section
variable {bs : List Int} (hB : IsB bs)
theorem memsR_le {k : Nat} {s : RS} (h : s.1 ≤ bs.length) : (memsR bs k s).2.1 ≤ bs.length := by
  induction k with
  | zero => exact h
  | succ k ih => exact numS_le ih
theorem bidsR_le {k : Nat} {s : RS} (h : s.1 ≤ bs.length) : (bidsR bs k s).2.1 ≤ bs.length := by
  induction k with
  | zero => exact h
  | succ k ih => exact numS_le (numS_le ih)
theorem entR_le {n : Int} {s : RS} (h : s.1 ≤ bs.length) : (entR bs n s).2.1 ≤ bs.length := bidsR_le (numS_le (numS_le (numS_le (numS_le (numS_le h)))))
theorem entsR_le {n : Int} {k : Nat} {s : RS} (h : s.1 ≤ bs.length) : (entsR bs n k s).2.1 ≤ bs.length := by
  induction k with
  | zero => exact h
  | succ k ih =>
    rw [entsR]
    split
    · exact entR_le ih
    · exact ih
include hB
theorem mems_out {s t : RS} {xs : List Int} : ∀ (k : Nat), s.1 ≤ bs.length → memsR bs k s = (xs, t) → t.2 = none → Rds bs s xs t ∧ xs.length = k ∧ ∀ x ∈ xs, 0 ≤ x ∧ x ≤ 15 := by
  intro k
  induction k generalizing xs t with
  | zero =>
    intro hs h h0
    rw [memsR] at h
    obtain ⟨rfl, rfl⟩ := Prod.mk.inj h
    exact ⟨Rds.nil h0 hs, rfl, fun x hx => by cases hx⟩
  | succ k ih =>
    intro hs h h0
    rw [memsR] at h
    obtain ⟨h1, h2⟩ := Prod.mk.inj h
    obtain ⟨r1, r2, r3⟩ := num_out hB (memsR_le (k := k) hs) (show numS bs 0 15 (memsR bs k s).2 = ((numS bs 0 15 (memsR bs k s).2).1, t) by rw [← h2]) h0
    obtain ⟨q1, q2, q3⟩ := ih (t := (memsR bs k s).2) hs rfl r1.s0
    rw [← h1]
    refine ⟨q1.trans r1, by rw [List.length_append, q2]; rfl, fun x hx => ?_⟩
    rcases List.mem_append.1 hx with hx | hx
    · exact q3 x hx
    · rw [List.mem_singleton] at hx
      rw [hx]
      exact ⟨r2, r3⟩
omit hB in
theorem mems_in {s : RS} : ∀ (k : Nat) (xs : List Int) (t : RS), Rds bs s xs t → xs.length = k → (∀ x ∈ xs, 0 ≤ x ∧ x ≤ 15) → memsR bs k s = (xs, t) := by
  intro k
  induction k with
  | zero =>
    intro xs t h hl _
    obtain rfl := List.eq_nil_of_length_eq_zero hl
    have hle : s.1 ≤ bs.length := by have := h.at_; have := h.le; omega
    rw [memsR, Rds.same (Rds.nil h.s0 hle) h]
  | succ k ih =>
    intro xs t h hl hr
    obtain ⟨a, x, rfl, ha⟩ := snoc hl
    obtain ⟨u, h1, h2⟩ := h.split
    have hx := hr x (by simp)
    rw [memsR, ih a u h1 ha (fun y hy => hr y (by simp [hy])), num_in (by unfold inI; omega) h2 hx.1 hx.2]
theorem bids_out {s t : RS} {xs : List (Int × Int)} : ∀ (k : Nat), s.1 ≤ bs.length → bidsR bs k s = (xs, t) → t.2 = none → Rds bs s (pairs xs) t ∧ xs.length = k ∧ ∀ x ∈ xs, (0 ≤ x.1 ∧ x.1 ≤ 15) ∧ 0 ≤ x.2 ∧ x.2 ≤ 1048576 := by
  intro k
  induction k generalizing xs t with
  | zero =>
    intro hs h h0
    rw [bidsR] at h
    obtain ⟨rfl, rfl⟩ := Prod.mk.inj h
    exact ⟨Rds.nil h0 hs, rfl, fun x hx => by cases hx⟩
  | succ k ih =>
    intro hs h h0
    rw [bidsR] at h
    obtain ⟨h1, h2⟩ := Prod.mk.inj h
    have hle := bidsR_le (k := k) hs
    obtain ⟨r1, r2, r3⟩ := num_out hB (numS_le (low := 0) (high := 15) hle) (show numS bs 0 1048576 (numS bs 0 15 (bidsR bs k s).2).2 = ((numS bs 0 1048576 (numS bs 0 15 (bidsR bs k s).2).2).1, t) by rw [← h2]; rfl) h0
    obtain ⟨p1, p2, p3⟩ := num_out hB hle (show numS bs 0 15 (bidsR bs k s).2 = ((numS bs 0 15 (bidsR bs k s).2).1, (numS bs 0 15 (bidsR bs k s).2).2) from rfl) r1.s0
    obtain ⟨q1, q2, q3⟩ := ih (t := (bidsR bs k s).2) hs rfl p1.s0
    rw [← h1]
    refine ⟨?_, by rw [List.length_append, q2]; rfl, fun x hx => ?_⟩
    · have := q1.trans (p1.trans r1)
      rw [show pairs ((bidsR bs k s).1 ++ [(bidR bs (bidsR bs k s).2).1]) = pairs (bidsR bs k s).1 ++ ([(numS bs 0 15 (bidsR bs k s).2).1] ++ [(numS bs 0 1048576 (numS bs 0 15 (bidsR bs k s).2).2).1]) by simp [pairs, bidR]]
      exact this
    · rcases List.mem_append.1 hx with hx | hx
      · exact q3 x hx
      · rw [List.mem_singleton] at hx
        rw [hx]
        exact ⟨⟨p2, p3⟩, r2, r3⟩
omit hB in
theorem bids_in {s : RS} : ∀ (k : Nat) (xs : List (Int × Int)) (t : RS), Rds bs s (pairs xs) t → xs.length = k → (∀ x ∈ xs, (0 ≤ x.1 ∧ x.1 ≤ 15) ∧ 0 ≤ x.2 ∧ x.2 ≤ 1048576) → bidsR bs k s = (xs, t) := by
  intro k
  induction k with
  | zero =>
    intro xs t h hl _
    obtain rfl := List.eq_nil_of_length_eq_zero hl
    have hle : s.1 ≤ bs.length := by have := h.at_; have := h.le; omega
    rw [bidsR, Rds.same (Rds.nil h.s0 hle) h]
  | succ k ih =>
    intro xs t h hl hr
    obtain ⟨a, x, rfl, ha⟩ := snoc hl
    rw [show pairs (a ++ [x]) = pairs a ++ ([x.1] ++ [x.2]) by simp [pairs]] at h
    obtain ⟨u, h1, h2⟩ := h.split
    obtain ⟨v, h3, h4⟩ := h2.split
    have hx := hr x (by simp)
    rw [bidsR, ih a u h1 ha (fun y hy => hr y (by simp [hy])), bidR, num_in (by unfold inI; omega) h3 hx.1.1 hx.1.2, num_in (by unfold inI; omega) h4 hx.2.1 hx.2.2]
end
def entNsP (e : EntP) : List Int := [e.1, e.2.1, e.2.2.1, e.2.2.2.1, (e.2.2.2.2.length : Int)] ++ pairs e.2.2.2.2
theorem entNs_unpl (e : EntP) : entNs (unpl e) = entNsP e := rfl
theorem entNs_pl (e : EntL) : entNsP e.pl = entNs e := rfl
structure EntRange (n : Int) (e : EntP) : Prop where
  floor : 0 ≤ e.1 ∧ e.1 ≤ 63
  dir : -1 ≤ e.2.1 ∧ e.2.1 ≤ 1
  gen : 1 ≤ e.2.2.1 ∧ e.2.2.1 ≤ 2147483647
  award : -1 ≤ e.2.2.2.1 ∧ e.2.2.2.1 ≤ 15
  many : (e.2.2.2.2.length : Int) ≤ n
  bids : ∀ x ∈ e.2.2.2.2, (0 ≤ x.1 ∧ x.1 ≤ 15) ∧ 0 ≤ x.2 ∧ x.2 ≤ 1048576
theorem Rds.cons {bs : List Int} {s t u : RS} {a : Int} {b : List Int} (h : Rds bs s [a] t) (k : Rds bs t b u) : Rds bs s (a :: b) u := h.trans k
theorem Rds.head {bs : List Int} {s u : RS} {a : Int} {b : List Int} (h : Rds bs s (a :: b) u) : ∃ t, Rds bs s [a] t ∧ Rds bs t b u := Rds.split (a := [a]) h
theorem Rds.le0 {bs : List Int} {s t : RS} {a : List Int} (h : Rds bs s a t) : s.1 ≤ bs.length := by have := h.at_; have := h.le; omega
section
variable {bs : List Int} (hB : IsB bs)
include hB
theorem ent_out {n : Int} {s t : RS} {e : EntP} (hs : s.1 ≤ bs.length) (h : entR bs n s = (e, t)) (h0 : t.2 = none) : Rds bs s (entNsP e) t ∧ EntRange n e := by
  unfold entR at h
  rcases ha : numS bs 0 63 s with ⟨a, sa⟩
  have la : sa.1 ≤ bs.length := by have := numS_le (low := 0) (high := 63) hs; rw [ha] at this; exact this
  rcases hb : numS bs (-1) 1 sa with ⟨b, sb⟩
  have lb : sb.1 ≤ bs.length := by have := numS_le (low := -1) (high := 1) la; rw [hb] at this; exact this
  rcases hc : numS bs 1 2147483647 sb with ⟨c, sc⟩
  have lc : sc.1 ≤ bs.length := by have := numS_le (low := 1) (high := 2147483647) lb; rw [hc] at this; exact this
  rcases hd : numS bs (-1) 15 sc with ⟨d, sd⟩
  have ld : sd.1 ≤ bs.length := by have := numS_le (low := -1) (high := 15) lc; rw [hd] at this; exact this
  rcases he : numS bs 0 n sd with ⟨f, se⟩
  have lf : se.1 ≤ bs.length := by have := numS_le (low := 0) (high := n) ld; rw [he] at this; exact this
  rcases hx : bidsR bs f.toNat se with ⟨x, sx⟩
  simp only [ha, hb, hc, hd, he, hx] at h
  obtain ⟨rfl, rfl⟩ := Prod.mk.inj h
  obtain ⟨x1, x2, x3⟩ := bids_out hB _ lf hx h0
  obtain ⟨f1, f2, f3⟩ := num_out hB ld he x1.s0
  obtain ⟨d1, d2, d3⟩ := num_out hB lc hd f1.s0
  obtain ⟨c1, c2, c3⟩ := num_out hB lb hc d1.s0
  obtain ⟨b1, b2, b3⟩ := num_out hB la hb c1.s0
  obtain ⟨a1, a2, a3⟩ := num_out hB hs ha b1.s0
  have hf : f = (x.length : Int) := by omega
  subst hf
  exact ⟨a1.cons (b1.cons (c1.cons (d1.cons (f1.cons x1)))), ⟨⟨a2, a3⟩, ⟨b2, b3⟩, ⟨c2, c3⟩, ⟨d2, d3⟩, f3, x3⟩⟩
omit hB in
theorem ent_in {n : Int} {s t : RS} {e : EntP} (hn : n ≤ 1000) (h : Rds bs s (entNsP e) t) (hr : EntRange n e) : entR bs n s = (e, t) := by
  obtain ⟨fl, di, ge, aw, x⟩ := e
  obtain ⟨r1, r2, r3, r4, r5, r6⟩ := hr
  simp only at r1 r2 r3 r4 r5 r6
  obtain ⟨u1, h1, h⟩ := Rds.head (b := [di, ge, aw, (x.length : Int)] ++ pairs x) h
  obtain ⟨u2, h2, h⟩ := Rds.head (b := [ge, aw, (x.length : Int)] ++ pairs x) h
  obtain ⟨u3, h3, h⟩ := Rds.head (b := [aw, (x.length : Int)] ++ pairs x) h
  obtain ⟨u4, h4, h⟩ := Rds.head (b := [(x.length : Int)] ++ pairs x) h
  obtain ⟨u5, h5, h6⟩ := Rds.head (b := pairs x) h
  unfold entR
  simp only [num_in (by unfold inI; omega) h1 r1.1 r1.2, num_in (by unfold inI; omega) h2 r2.1 r2.2, num_in (by unfold inI; omega) h3 r3.1 r3.2, num_in (by unfold inI; omega) h4 r4.1 r4.2, num_in (by unfold inI; omega) h5 (show (0 : Int) ≤ x.length by omega) r5]
  rw [show ((x.length : Int)).toNat = x.length by omega, bids_in _ x t h6 rfl r6]
theorem ents_out {n : Int} {s t : RS} {es : List EntP} : ∀ (k : Nat), s.1 ≤ bs.length → entsR bs n k s = (es, t) → t.2 = none → Rds bs s (es.flatMap entNsP) t ∧ es.length = k ∧ ∀ e ∈ es, EntRange n e := by
  intro k
  induction k generalizing es t with
  | zero =>
    intro hs h h0
    rw [entsR] at h
    obtain ⟨rfl, rfl⟩ := Prod.mk.inj h
    exact ⟨Rds.nil h0 hs, rfl, fun x hx => by cases hx⟩
  | succ k ih =>
    intro hs h h0
    rw [entsR] at h
    split at h
    · rename_i hn
      obtain ⟨h1, h2⟩ := Prod.mk.inj h
      obtain ⟨r1, r2⟩ := ent_out hB (entsR_le (n := n) (k := k) hs) (show entR bs n (entsR bs n k s).2 = ((entR bs n (entsR bs n k s).2).1, t) by rw [← h2]) h0
      obtain ⟨q1, q2, q3⟩ := ih (t := (entsR bs n k s).2) hs rfl hn
      rw [← h1]
      refine ⟨?_, by rw [List.length_append, q2]; rfl, fun x hx => ?_⟩
      · rw [List.flatMap_append, List.flatMap_cons, List.flatMap_nil, List.append_nil]
        exact q1.trans r1
      · rcases List.mem_append.1 hx with hx | hx
        · exact q3 x hx
        · rw [List.mem_singleton] at hx
          rw [hx]
          exact r2
    · rename_i hn
      rw [h] at hn
      exact absurd h0 hn
omit hB in
theorem ents_in {n : Int} {s : RS} (hn : n ≤ 1000) : ∀ (k : Nat) (es : List EntP) (t : RS), Rds bs s (es.flatMap entNsP) t → es.length = k → (∀ e ∈ es, EntRange n e) → entsR bs n k s = (es, t) := by
  intro k
  induction k with
  | zero =>
    intro es t h hl _
    obtain rfl := List.eq_nil_of_length_eq_zero hl
    rw [entsR, Rds.same (Rds.nil h.s0 h.le0) h]
  | succ k ih =>
    intro es t h hl hr
    obtain ⟨a, x, rfl, ha⟩ := snoc hl
    rw [List.flatMap_append, List.flatMap_cons, List.flatMap_nil, List.append_nil] at h
    obtain ⟨u, h1, h2⟩ := h.split
    rw [entsR, ih a u h1 ha (fun y hy => hr y (by simp [hy])), if_pos h2.s0, ent_in hn h2 (hr x (by simp))]
end

def ringNsP (r : RingP) : List Int := [r.1, r.2.1, r.2.2.1, (r.2.2.2.1.length : Int)] ++ (r.2.2.2.1 ++ ([(r.2.2.2.2.length : Int)] ++ r.2.2.2.2.flatMap entNsP))
structure RingRange (r : RingP) : Prop where
  count : 1 ≤ r.1 ∧ r.1 ≤ 4294967295
  founder : 0 ≤ r.2.1 ∧ r.2.1 ≤ 15
  hop : 0 ≤ r.2.2.1 ∧ r.2.2.1 ≤ 1099511627776
  many : r.2.2.2.1.length ≤ 16 ∧ r.2.2.2.2.length ≤ 128
  cars : ∀ x ∈ r.2.2.2.1, 0 ≤ x ∧ x ≤ 15
  ents : ∀ e ∈ r.2.2.2.2, EntRange (r.2.2.2.1.length : Int) e
section
variable {bs : List Int} (hB : IsB bs)
include hB
theorem ring_out {s t : RS} {r : RingP} (hs : s.1 ≤ bs.length) (h : ringR bs s = (r, t)) (h0 : t.2 = none) : Rds bs s (ringNsP r) t ∧ RingRange r := by
  unfold ringR at h
  rcases ha : numS bs 1 4294967295 s with ⟨a, sa⟩
  have la : sa.1 ≤ bs.length := by have := numS_le (low := 1) (high := 4294967295) hs; rw [ha] at this; exact this
  rcases hb : numS bs 0 15 sa with ⟨b, sb⟩
  have lb : sb.1 ≤ bs.length := by have := numS_le (low := 0) (high := 15) la; rw [hb] at this; exact this
  rcases hc : numS bs 0 1099511627776 sb with ⟨c, sc⟩
  have lc : sc.1 ≤ bs.length := by have := numS_le (low := 0) (high := 1099511627776) lb; rw [hc] at this; exact this
  rcases hd : numS bs 0 16 sc with ⟨d, sd⟩
  have ld : sd.1 ≤ bs.length := by have := numS_le (low := 0) (high := 16) lc; rw [hd] at this; exact this
  rcases hm : memsR bs d.toNat sd with ⟨m, sm⟩
  have lm : sm.1 ≤ bs.length := by have := memsR_le (k := d.toNat) ld; rw [hm] at this; exact this
  rcases he : numS bs 0 128 sm with ⟨e, se⟩
  have le : se.1 ≤ bs.length := by have := numS_le (low := 0) (high := 128) lm; rw [he] at this; exact this
  rcases hx : entsR bs d e.toNat se with ⟨x, sx⟩
  simp only [ha, hb, hc, hd, hm, he, hx] at h
  obtain ⟨rfl, rfl⟩ := Prod.mk.inj h
  obtain ⟨x1, x2, x3⟩ := ents_out hB _ le hx h0
  obtain ⟨e1, e2, e3⟩ := num_out hB lm he x1.s0
  obtain ⟨m1, m2, m3⟩ := mems_out hB _ ld hm e1.s0
  obtain ⟨d1, d2, d3⟩ := num_out hB lc hd m1.s0
  obtain ⟨c1, c2, c3⟩ := num_out hB lb hc d1.s0
  obtain ⟨b1, b2, b3⟩ := num_out hB la hb c1.s0
  obtain ⟨a1, a2, a3⟩ := num_out hB hs ha b1.s0
  have hd' : d = (m.length : Int) := by omega
  have he' : e = (x.length : Int) := by omega
  subst hd' he'
  exact ⟨a1.cons (b1.cons (c1.cons (d1.cons (m1.trans (e1.cons x1))))), ⟨⟨a2, a3⟩, ⟨b2, b3⟩, ⟨c2, c3⟩, ⟨by simp only; omega, by simp only; omega⟩, m3, x3⟩⟩
omit hB in
theorem ring_in {s t : RS} {r : RingP} (h : Rds bs s (ringNsP r) t) (hr : RingRange r) : ringR bs s = (r, t) := by
  obtain ⟨a, b, c, m, x⟩ := r
  obtain ⟨r1, r2, r3, r4, r5, r6⟩ := hr
  simp only at r1 r2 r3 r4 r5 r6
  obtain ⟨u1, h1, h⟩ := Rds.head (b := [b, c, (m.length : Int)] ++ (m ++ ([(x.length : Int)] ++ x.flatMap entNsP))) h
  obtain ⟨u2, h2, h⟩ := Rds.head (b := [c, (m.length : Int)] ++ (m ++ ([(x.length : Int)] ++ x.flatMap entNsP))) h
  obtain ⟨u3, h3, h⟩ := Rds.head (b := [(m.length : Int)] ++ (m ++ ([(x.length : Int)] ++ x.flatMap entNsP))) h
  obtain ⟨u4, h4, h⟩ := Rds.head (b := m ++ ([(x.length : Int)] ++ x.flatMap entNsP)) h
  obtain ⟨u5, h5, h⟩ := h.split
  obtain ⟨u6, h6, h7⟩ := Rds.head (b := x.flatMap entNsP) h
  unfold ringR
  simp only [num_in (by unfold inI; omega) h1 r1.1 r1.2, num_in (by unfold inI; omega) h2 r2.1 r2.2, num_in (by unfold inI; omega) h3 r3.1 r3.2, num_in (by unfold inI; omega) h4 (show (0 : Int) ≤ m.length by omega) (show (m.length : Int) ≤ 16 by omega)]
  rw [show ((m.length : Int)).toNat = m.length by omega, mems_in _ m u5 h5 rfl r5]
  simp only [num_in (by unfold inI; omega) h6 (show (0 : Int) ≤ x.length by omega) (show (x.length : Int) ≤ 128 by omega)]
  rw [show ((x.length : Int)).toNat = x.length by omega, ents_in (by omega) _ x t h7 rfl r6]
theorem beatS_out {s t : RS} {f : FrameP} (hs : s.1 ≤ bs.length) (h : beatR bs s = (f, t)) (h0 : t.2 = none) : ∃ fr tt li se out, f = (1, fr, tt, li, se, out, 0, 0, 0, [], []) ∧ Rds bs s [fr, tt, li, se, bit out] t := by
  unfold beatR at h
  rcases ha : numS bs 0 15 s with ⟨a, sa⟩
  have la : sa.1 ≤ bs.length := by have := numS_le (low := 0) (high := 15) hs; rw [ha] at this; exact this
  rcases hb : numS bs 0 15 sa with ⟨b, sb⟩
  have lb : sb.1 ≤ bs.length := by have := numS_le (low := 0) (high := 15) la; rw [hb] at this; exact this
  rcases hc : numS bs 0 281474976710655 sb with ⟨c, sc⟩
  have lc : sc.1 ≤ bs.length := by have := numS_le (low := 0) (high := 281474976710655) lb; rw [hc] at this; exact this
  rcases hd : numS bs 0 281474976710655 sc with ⟨d, sd⟩
  have ld : sd.1 ≤ bs.length := by have := numS_le (low := 0) (high := 281474976710655) lc; rw [hd] at this; exact this
  rcases he : numS bs 0 1 sd with ⟨e, se⟩
  simp only [ha, hb, hc, hd, he] at h
  obtain ⟨rfl, rfl⟩ := Prod.mk.inj h
  obtain ⟨e1, e2, e3⟩ := num_out hB ld he h0
  obtain ⟨d1, d2, d3⟩ := num_out hB lc hd e1.s0
  obtain ⟨c1, c2, c3⟩ := num_out hB lb hc d1.s0
  obtain ⟨b1, b2, b3⟩ := num_out hB la hb c1.s0
  obtain ⟨a1, a2, a3⟩ := num_out hB hs ha b1.s0
  refine ⟨a, b, c, d, e == 1, rfl, a1.cons (b1.cons (c1.cons (d1.cons ?_)))⟩
  have : bit (e == 1) = e := by
    have : e = 0 ∨ e = 1 := by omega
    rcases this with rfl | rfl <;> rfl
  rw [this]
  exact e1
omit hB in
theorem beatS_in {s t : RS} {fr tt li se : Int} {out : Bool} (h : Rds bs s [fr, tt, li, se, bit out] t) (h1 : 0 ≤ fr ∧ fr < 16) (h2 : 0 ≤ tt ∧ tt < 16) (h3 : numOk li) (h4 : numOk se) : beatR bs s = ((1, fr, tt, li, se, out, 0, 0, 0, [], []), t) := by
  obtain ⟨u1, g1, h⟩ := h.head
  obtain ⟨u2, g2, h⟩ := h.head
  obtain ⟨u3, g3, h⟩ := h.head
  obtain ⟨u4, g4, g5⟩ := h.head
  unfold numOk at h3 h4
  have hb : 0 ≤ bit out ∧ bit out ≤ 1 := by unfold bit; cases out <;> simp
  unfold beatR
  simp only [num_in (by unfold inI; omega) g1 h1.1 (show fr ≤ 15 by omega), num_in (by unfold inI; omega) g2 h2.1 (show tt ≤ 15 by omega), num_in (by unfold inI; omega) g3 h3.1 h3.2, num_in (by unfold inI; omega) g4 h4.1 h4.2, num_in (by unfold inI; omega) g5 hb.1 hb.2]
  have : (bit out == 1) = out := by cases out <;> rfl
  rw [this]
theorem tok_out {s t : RS} {f : FrameP} (hs : s.1 ≤ bs.length) (h : tokR bs s = (f, t)) (h0 : t.2 = none) : ∃ fr tt r, f = (2, fr, tt, 0, 0, false, r) ∧ Rds bs s (fr :: tt :: ringNsP r) t := by
  unfold tokR at h
  rcases ha : numS bs 0 15 s with ⟨a, sa⟩
  have la : sa.1 ≤ bs.length := by have := numS_le (low := 0) (high := 15) hs; rw [ha] at this; exact this
  rcases hb : numS bs 0 15 sa with ⟨b, sb⟩
  have lb : sb.1 ≤ bs.length := by have := numS_le (low := 0) (high := 15) la; rw [hb] at this; exact this
  rcases hc : ringR bs sb with ⟨r, sc⟩
  simp only [ha, hb, hc] at h
  obtain ⟨rfl, rfl⟩ := Prod.mk.inj h
  obtain ⟨c1, c2⟩ := ring_out hB lb hc h0
  obtain ⟨b1, b2, b3⟩ := num_out hB la hb c1.s0
  obtain ⟨a1, a2, a3⟩ := num_out hB hs ha b1.s0
  exact ⟨a, b, r, rfl, a1.cons (b1.cons c1)⟩
omit hB in
theorem tok_in {s t : RS} {fr tt : Int} {r : RingP} (h : Rds bs s (fr :: tt :: ringNsP r) t) (h1 : 0 ≤ fr ∧ fr < 16) (h2 : 0 ≤ tt ∧ tt < 16) (hr : RingRange r) : tokR bs s = ((2, fr, tt, 0, 0, false, r), t) := by
  obtain ⟨u1, g1, h⟩ := h.head
  obtain ⟨u2, g2, g3⟩ := h.head
  unfold tokR
  simp only [num_in (by unfold inI; omega) g1 h1.1 (show fr ≤ 15 by omega), num_in (by unfold inI; omega) g2 h2.1 (show tt ≤ 15 by omega), ring_in g3 hr]
end
/-- A frame's numbers, from its plain data. -/
def frameNsP (f : FrameP) : List Int := frameNs f.1 f.2.1 f.2.2.1 f.2.2.2.1 f.2.2.2.2.1 f.2.2.2.2.2.1 f.2.2.2.2.2.2.1 f.2.2.2.2.2.2.2.1 f.2.2.2.2.2.2.2.2.1 f.2.2.2.2.2.2.2.2.2.1 (f.2.2.2.2.2.2.2.2.2.2.map unpl)
theorem flat_unpl (es : List EntP) : (es.map unpl).flatMap entNs = es.flatMap entNsP := by
  rw [List.flatMap_map]
  rfl
theorem ringNs_unpl (r : RingP) : ringNs r.1 r.2.1 r.2.2.1 r.2.2.2.1 (r.2.2.2.2.map unpl) = ringNsP r := by
  unfold ringNs ringNsP
  rw [flat_unpl, List.length_map]
  simp
theorem frameNsP_pl (f : FrL) : frameNsP f.pl = frameNs f.kind f.fr f.tt f.life f.seen f.out f.count f.founder f.hop f.ms f.es := by
  unfold frameNsP
  simp only [FrL.pl]
  unfold frameNs ringNs
  rw [List.length_map, List.length_map, flat_unpl]
  have : (f.es.map EntL.pl).flatMap entNsP = f.es.flatMap entNs := by rw [List.flatMap_map]; rfl
  rw [this]
theorem ringV_range {co fo ho : Int} {ms : List Int} {es : List EntP} (h : RingV co fo ho ms (es.map unpl)) : RingRange (co, fo, ho, ms, es) := by
  have h1 := h.epoch
  have h2 := h.hop
  have h3 := h.many
  rw [List.length_map] at h3
  refine ⟨⟨h1.1, h1.2.1⟩, ⟨h1.2.2.1, by simp only; omega⟩, h2, ⟨h3.2.1, h3.2.2⟩, fun x hx => by have := h.cars x hx; omega, fun e he => ?_⟩
  obtain ⟨k, hk⟩ := List.getElem?_of_mem he
  have hv := (h.ents k (unpl e) (by rw [List.getElem?_map, hk]; rfl)).1
  obtain ⟨fl, di, ge, aw, x⟩ := e
  obtain ⟨v1, v2, v3, v4, v5, v6, _⟩ := hv
  simp only [unpl] at v1 v2 v3 v4 v5 v6
  refine ⟨⟨v1.1, by simp only; omega⟩, by simp only; omega, v3, ?_, by simp only; omega, fun b hb => ?_⟩
  · simp only
    rcases v4 with h | h
    · omega
    · have := h3; have hc : 0 ≤ aw ∧ aw < 16 := RingV.cars ‹_› aw h; omega
  · obtain ⟨b1, b2, b3⟩ := v6 b hb
    have hc : 0 ≤ b.1 ∧ b.1 < 16 := RingV.cars ‹_› b.1 b1
    exact ⟨by omega, b2, b3⟩
theorem getD_two {α : Type} (a b : α) (l : List α) (d : α) : (a :: b :: l).getD 0 d = a ∧ (a :: b :: l).getD 1 d = b := ⟨rfl, rfl⟩
theorem rds_of {b : List Int} {ns rest : List Int} {x y : Int} (h : b = x :: y :: (cat ns ++ rest)) : Rds b (2, none) ns (2 + (cat ns).length, none) := by
  have hl : b.length = 2 + (cat ns).length + rest.length := by rw [h]; simp; omega
  refine ⟨rfl, rfl, by show 2 + _ ≤ _; omega, rfl, ?_⟩
  show b.drop 2 = _ ++ b.drop (2 + (cat ns).length)
  rw [← List.drop_drop, h]
  show cat ns ++ rest = cat ns ++ (cat ns ++ rest).drop (cat ns).length
  rw [List.drop_left]
/-- A frame's bytes are read as it is; with more behind them they are not. -/
theorem readR_cat {f : FrameP} (hv : frameEP f = 0) (rest : List Int) : readR (cat (frameNsP f) ++ rest) = if rest = [] then .ok f else .bare 102 := by
  obtain ⟨k, fr, tt, li, se, out, co, fo, ho, ms, es⟩ := f
  have hv0 := hv
  unfold frameEP at hv
  simp only at hv
  obtain ⟨h1, h2, ⟨rfl, h3, h4, h5⟩ | ⟨rfl, rfl, rfl, rfl, hr⟩⟩ := frameE_valid hv
  · obtain ⟨rfl, rfl, rfl, h6, h7⟩ := h5
    obtain rfl := List.eq_nil_of_length_eq_zero h6
    rw [List.length_map] at h7
    obtain rfl := List.eq_nil_of_length_eq_zero h7
    have hb : cat (frameNsP (1, fr, tt, li, se, out, 0, 0, 0, [], [])) ++ rest = 80 :: 1 :: (cat [fr, tt, li, se, bit out] ++ rest) := by
      have e : cat (frameNsP (1, fr, tt, li, se, out, 0, 0, 0, [], [])) = form (zz 40) ++ (form (zz (-1)) ++ cat [fr, tt, li, se, bit out]) := by
        unfold frameNsP frameNs
        simp [cat]
      rw [e, form_40, form_1]
      rfl
    generalize hB : cat (frameNsP (1, fr, tt, li, se, out, 0, 0, 0, [], [])) ++ rest = B at hb
    have hbt := beatS_in (rds_of hb) h1 h2 h3 h4
    have hl : B.length = 2 + (cat [fr, tt, li, se, bit out]).length + rest.length := by rw [hb]; simp; omega
    have g0 : B.getD 0 0 = 80 := by rw [hb]; rfl
    have g1 : B.getD 1 0 = 1 := by rw [hb]; rfl
    unfold readR
    rw [if_neg (by rw [g0]; omega), if_neg (by rw [g1]; omega), if_pos g1, hbt]
    unfold endR
    simp only
    cases rest with
    | nil => rw [if_neg (by simp at hl; omega), if_neg (by rw [hv0]; simp), if_pos rfl]
    | cons y l => rw [if_pos (by simp at hl; omega), if_neg (by simp)]
  · have hb : cat (frameNsP (2, fr, tt, 0, 0, false, co, fo, ho, ms, es)) ++ rest = 80 :: 2 :: (cat (fr :: tt :: ringNsP (co, fo, ho, ms, es)) ++ rest) := by
      have e : cat (frameNsP (2, fr, tt, 0, 0, false, co, fo, ho, ms, es)) = form (zz 40) ++ (form (zz 1) ++ cat (fr :: tt :: ringNsP (co, fo, ho, ms, es))) := by
        rw [← ringNs_unpl]
        unfold frameNsP frameNs
        simp [cat]
      rw [e, form_40, form_2]
      rfl
    generalize hB : cat (frameNsP (2, fr, tt, 0, 0, false, co, fo, ho, ms, es)) ++ rest = B at hb
    have hbt := tok_in (rds_of hb) h1 h2 (ringV_range hr)
    have hl : B.length = 2 + (cat (fr :: tt :: ringNsP (co, fo, ho, ms, es))).length + rest.length := by rw [hb]; simp; omega
    have g0 : B.getD 0 0 = 80 := by rw [hb]; rfl
    have g1 : B.getD 1 0 = 2 := by rw [hb]; rfl
    unfold readR
    rw [if_neg (by rw [g0]; omega), if_neg (by rw [g1]; omega), if_neg (by rw [g1]; decide), hbt]
    unfold endR
    simp only
    cases rest with
    | nil => rw [if_neg (by simp at hl; omega), if_neg (by rw [hv0]; simp), if_pos rfl]
    | cons y l => rw [if_pos (by simp at hl; omega), if_neg (by simp)]
theorem two_drop {b : List Int} {x y : Int} (h2 : ¬ b.length < 2) (h0 : b.getD 0 0 = x) (h1 : b.getD 1 0 = y) : b = x :: y :: b.drop 2 := by
  match b, h2 with
  | [], h => exact absurd (by simp) h
  | [_], h => exact absurd (by simp) h
  | a :: c :: l, _ =>
    simp only [List.getD_cons_zero, List.getD_cons_succ] at h0 h1
    rw [h0, h1]
    rfl
theorem endR_ok {bs : List Int} {x : FrameP × RS} {f : FrameP} (h : endR bs x = .ok f) : x.1 = f ∧ x.2.2 = none ∧ bs.length ≤ x.2.1 ∧ frameEP f = 0 := by
  obtain ⟨g, p, o⟩ := x
  unfold endR at h
  cases o with
  | some e => cases h
  | none =>
    simp only at h
    split at h
    · cases h
    split at h
    · cases h
    rename_i h1 h2
    injection h with h
    subst h
    exact ⟨rfl, rfl, Nat.le_of_not_lt h1, by simpa using h2⟩
/-- What is read has just these bytes. -/
theorem readR_ok {b : List Int} {f : FrameP} (hB : IsB b) (h : readR b = .ok f) : b = cat (frameNsP f) ∧ frameEP f = 0 := by
  unfold readR at h
  split at h
  · cases h
  rename_i h1
  split at h
  · cases h
  rename_i h2
  have h80 : b.getD 0 0 = 80 := by omega
  have hl2 : ¬ b.length < 2 := by omega
  split at h
  · rename_i h3
    obtain ⟨e1, e2, e3, e4⟩ := endR_ok h
    obtain ⟨fr, tt, li, se, out, hf, hr⟩ := beatS_out hB (show ((2, none) : RS).1 ≤ b.length by simp only; omega) (show beatR b (2, none) = (f, (beatR b (2, none)).2) by rw [← e1]) e2
    refine ⟨?_, e4⟩
    have hd := hr.drop
    rw [List.drop_of_length_le e3, List.append_nil] at hd
    have hbb := two_drop hl2 h80 h3
    rw [hd] at hbb
    rw [hbb, hf]
    have e : cat (frameNsP (1, fr, tt, li, se, out, 0, 0, 0, [], [])) = form (zz 40) ++ (form (zz (-1)) ++ cat [fr, tt, li, se, bit out]) := by
      unfold frameNsP frameNs
      simp [cat]
    rw [e, form_40, form_1]
    rfl
  · rename_i h3
    have h3' : b.getD 1 0 = 2 := by omega
    obtain ⟨e1, e2, e3, e4⟩ := endR_ok h
    obtain ⟨fr, tt, r, hf, hr⟩ := tok_out hB (show ((2, none) : RS).1 ≤ b.length by simp only; omega) (show tokR b (2, none) = (f, (tokR b (2, none)).2) by rw [← e1]) e2
    refine ⟨?_, e4⟩
    have hd := hr.drop
    rw [List.drop_of_length_le e3, List.append_nil] at hd
    have hbb := two_drop hl2 h80 h3'
    rw [hd] at hbb
    rw [hbb, hf]
    have e : cat (frameNsP (2, fr, tt, 0, 0, false, r)) = form (zz 40) ++ (form (zz 1) ++ cat (fr :: tt :: ringNsP r)) := by
      rw [← ringNs_unpl]
      unfold frameNsP frameNs
      simp [cat]
    rw [e, form_40, form_2]
    rfl
end Go.Proofs.YtogcbiooddodlaaDoor
