/- Both mails, step by step, in range or not: one contract each; what is kept of both, of a copy, of a thing told. -/
import Derived.Test.YtnhfnklbeifbhaaRefLaw
import Derived.Test.YtnhfnklbeifbhaaMailOrderWalk
namespace Go.Proofs.Ytnhfnklbeifbhaa
open Go.RowKit
set_option linter.unusedSimpArgs false

abbrev Fr := Int × List Int
def inR (D : List Fr) (i : Int) : Bool := decide (0 ≤ i ∧ i < D.length)
def atD (D : List Fr) (i : Int) : Fr := D.getD i.toNat (0, [])
def takeD (D : List Fr) (i : Int) : List Fr := if inR D i then D.eraseIdx i.toNat else D
def itemD (D : List Fr) (i : Int) : Fr := if inR D i then atD D i else (0, [])
def copyD (D : List Fr) (i : Int) : List Fr := if inR D i then D ++ [atD D i] else D
def swpD (D : List Fr) (i k : Int) : List Fr := if inR D i && inR D k then (D.set i.toNat (atD D k)).set k.toNat (atD D i) else D
theorem inR_yes {D : List Fr} {i : Int} (h : inR D i = true) : D[i.toNat]? = some (atD D i) ∧ ((i.toNat : Nat) : Int) = i := by
  simp only [inR, decide_eq_true_eq] at h
  refine ⟨?_, by omega⟩
  have : i.toNat < D.length := by omega
  simp [atD, List.getD_eq_getElem?_getD, List.getElem?_eq_getElem this]
theorem inR_no {D : List Fr} {i : Int} (h : ¬ inR D i = true) : ¬ (0 ≤ i ∧ i < D.length) := by simpa [inR] using h
def Fits (D : List Fr) (n : Nat) : Prop := D.length ≤ n ∧ ∀ p ∈ D, p.2.length ≤ 60
theorem atD_mem {D : List Fr} {i : Int} (h : inR D i = true) : atD D i ∈ D := List.mem_of_getElem? (inR_yes h).1
theorem Fits.put {D : List Fr} {n : Nat} (h : Fits D n) (p : Fr) (hp : p.2.length ≤ 60) : Fits (D ++ [p]) (n + 1) :=
  ⟨by have := h.1; simp; omega, fun q hq => by
    rcases List.mem_append.1 hq with hq | hq
    · exact h.2 q hq
    · rw [List.mem_singleton] at hq; rw [hq]; exact hp⟩
theorem Fits.up {D : List Fr} {n : Nat} (h : Fits D n) : Fits D (n + 1) := ⟨Nat.le_succ_of_le h.1, h.2⟩
theorem Fits.take {D : List Fr} {n : Nat} (h : Fits D n) (i : Int) : Fits (takeD D i) (n + 1) := by
  unfold takeD
  split
  · refine ⟨?_, fun p hp => h.2 p (List.mem_of_mem_eraseIdx hp)⟩
    have := List.length_eraseIdx_le D i.toNat
    have := h.1
    omega
  · exact h.up
theorem Fits.item {D : List Fr} {n : Nat} (h : Fits D n) (i : Int) : (itemD D i).2.length ≤ 60 := by
  unfold itemD
  split
  · exact h.2 _ (atD_mem (by assumption))
  · exact Nat.zero_le _
theorem Fits.copy {D : List Fr} {n : Nat} (h : Fits D n) (i : Int) : Fits (copyD D i) (n + 1) := by
  unfold copyD
  split
  · exact h.put _ (h.2 _ (atD_mem (by assumption)))
  · exact h.up
theorem Fits.swap {D : List Fr} {n : Nat} (h : Fits D n) (i k : Int) : Fits (swpD D i k) (n + 1) := by
  unfold swpD
  split
  · rename_i hh
    simp only [Bool.and_eq_true] at hh
    refine ⟨by have := h.1; simp; omega, fun p hp => ?_⟩
    rcases List.mem_or_eq_of_mem_set hp with hp | rfl
    · rcases List.mem_or_eq_of_mem_set hp with hp | rfl
      · exact h.2 p hp
      · exact h.2 _ (atD_mem hh.2)
    · exact h.2 _ (atD_mem hh.1)
  · exact h.up

def StepL (w : World) (b : Nat) (F : Nat → Prop) (D : List Fr) (ok : Bool) (e : Ending) (w' : World) : Prop :=
  ∃ F', e = .returned (.bool ok) ∧ MailL w' b F' D 0 ∧ (∀ k, F' k → F k ∨ w.heap.size ≤ k) ∧ Eff F w w'
def RStepL (w : World) (b : Nat) (F : Nat → Prop) (D : List Fr) (ok : Bool) (e : Ending) (w' : World) : Prop :=
  ∃ F', e = .returned (.bool ok) ∧ RMailL w' b F' D 0 ∧ (∀ k, F' k → F k ∨ w.heap.size ≤ k) ∧ Eff F w w'
def TookL (w : World) (b : Nat) (F : Nat → Prop) (D : List Fr) (p : Fr) (ok : Bool) (e : Ending) (w' : World) : Prop :=
  ∃ F' A c, e = .returned (.tuple #[.agg #[.int .i64 p.1, .slice A p.2.length c], .bool ok]) ∧ MailL w' b F' D 0 ∧ (∀ k, F' k → F k ∨ w.heap.size ≤ k) ∧ It.here w' ⟨p.1, A, c, p.2⟩ ∧ (∀ a, A = some a → a.block < w.heap.size ∧ F a.block) ∧ Eff F w w'
def RTookL (w : World) (b : Nat) (F : Nat → Prop) (D : List Fr) (p : Fr) (ok : Bool) (e : Ending) (w' : World) : Prop :=
  ∃ F' A c, e = .returned (.tuple #[.agg #[.int .i64 p.1, .slice A p.2.length c], .bool ok]) ∧ RMailL w' b F' D 0 ∧ (∀ k, F' k → F k ∨ w.heap.size ≤ k) ∧ It.here w' ⟨p.1, A, c, p.2⟩ ∧ (∀ a, A = some a → a.block < w.heap.size ∧ F a.block) ∧ Eff F w w'
theorem drewN_rmail {w : World} {b : Nat} {F : Nat → Prop} {D : List Fr} {lost : Int} (h : RMailL w b F D lost) (n : Nat) : RMailL (w.drewN n) b F D lost := by
  obtain ⟨v9, its9, h9, r9⟩ := h
  exact ⟨v9, its9, ⟨h9.blk, h9.row, h9.nb, h9.here, h9.off, h9.old, h9.free⟩, r9⟩

section
variable {b : Nat} {F : Nat → Prop} {D : List Fr} {n : Nat}
theorem putS (x : It) (w : World) (hm : MailL w b F D 0) (hx : x.here w) (hf : Fits D n) (hn : n ≤ 100) (hxl : x.bs.length ≤ 60) :
    Calls Try.prog 9 #[.pointer (some ⟨b, 0, none⟩), .int .i64 x.dst, .slice x.A x.bs.length x.c] w (StepL w b F (D ++ [x.data]) true) := by
  refine (putL x w hm hx (by have := hf.1; omega) (by omega)).mono ?_
  rintro e w' ⟨F', rfl, h1, h2, h3⟩
  exact ⟨F', rfl, h1, h2, h3⟩
theorem rPutS (x : It) (w : World) (hm : RMailL w b F D 0) (hx : x.here w) (hf : Fits D n) (hn : n ≤ 100) (hxl : x.bs.length ≤ 60) :
    Calls Try.prog 18 #[.pointer (some ⟨b, 0, none⟩), .int .i64 x.dst, .slice x.A x.bs.length x.c] w (RStepL w b F (D ++ [x.data]) true) := by
  refine (rPutL x w hm hx (by have := hf.1; omega) (by omega)).mono ?_
  rintro e w' ⟨F', rfl, h1, h2, h3⟩
  exact ⟨F', rfl, h1, h2, h3⟩
theorem copyS (i : Int) (w : World) (hm : MailL w b F D 0) (hf : Fits D n) (hn : n ≤ 100) :
    Calls Try.prog 10 #[.pointer (some ⟨b, 0, none⟩), .int .i64 i] w (StepL w b F (copyD D i) (inR D i)) := by
  by_cases h : inR D i = true
  · obtain ⟨h1, h2⟩ := inR_yes h
    have hc := copyL i.toNat _ w hm h1 (by have := hf.1; omega) (by have := hf.2 _ (atD_mem h); omega)
    rw [h2] at hc
    refine hc.mono ?_
    rintro e w' ⟨F', rfl, h1, h2, h3⟩
    exact ⟨F', by rw [h], by rw [copyD, if_pos h]; exact h1, h2, h3⟩
  · refine (copyNoL i w hm (inR_no h)).mono ?_
    rintro e w' ⟨rfl, q, rfl⟩
    exact ⟨F, by rw [Bool.eq_false_iff.2 h], by rw [copyD, if_neg h]; exact drewN_mail hm q, fun k hk => .inl hk, Eff.of_below (below_drewN (Below.refl _ _) q)⟩
theorem againS (i : Int) (w : World) (hm : RMailL w b F D 0) (hf : Fits D n) (hn : n ≤ 100) :
    Calls Try.prog 20 #[.pointer (some ⟨b, 0, none⟩), .int .i64 i] w (RStepL w b F (copyD D i) (inR D i)) := by
  by_cases h : inR D i = true
  · obtain ⟨h1, h2⟩ := inR_yes h
    have hc := againL i.toNat _ w hm h1 (by have := hf.1; omega) (by have := hf.2 _ (atD_mem h); omega)
    rw [h2] at hc
    refine hc.mono ?_
    rintro e w' ⟨F', rfl, h1, h2, h3⟩
    exact ⟨F', by rw [h], by rw [copyD, if_pos h]; exact h1, h2, h3⟩
  · refine (againNoL i w hm (inR_no h)).mono ?_
    rintro e w' ⟨rfl, rfl⟩
    exact ⟨F, by rw [Bool.eq_false_iff.2 h], by rw [copyD, if_neg h]; exact hm, fun k hk => .inl hk, Eff.refl _ _⟩
theorem inR_two {D : List Fr} {i k : Int} (h : ¬ (inR D i && inR D k) = true) : ¬ ((0 ≤ i ∧ i < D.length) ∧ (0 ≤ k ∧ k < D.length)) := by
  simpa [inR] using h
theorem swapS (i k : Int) (w : World) (hm : MailL w b F D 0) :
    Calls Try.prog 15 #[.pointer (some ⟨b, 0, none⟩), .int .i64 i, .int .i64 k] w (StepL w b F (swpD D i k) (inR D i && inR D k)) := by
  by_cases h : (inR D i && inR D k) = true
  · have hh := h
    simp only [Bool.and_eq_true] at hh
    obtain ⟨h1, h2⟩ := inR_yes hh.1
    obtain ⟨h3, h4⟩ := inR_yes hh.2
    have hc := swapL i.toNat k.toNat _ _ w hm h1 h3
    rw [h2, h4] at hc
    refine hc.mono ?_
    rintro e w' ⟨rfl, h1, h3⟩
    exact ⟨F, by rw [h], by rw [swpD, if_pos h]; exact h1, fun k hk => .inl hk, h3⟩
  · refine (swapNoL i k w hm (inR_two h)).mono ?_
    rintro e w' ⟨rfl, rfl⟩
    exact ⟨F, by rw [Bool.eq_false_iff.2 h], by rw [swpD, if_neg h]; exact hm, fun k hk => .inl hk, Eff.refl _ _⟩
theorem rSwapS (i k : Int) (w : World) (hm : RMailL w b F D 0) :
    Calls Try.prog 21 #[.pointer (some ⟨b, 0, none⟩), .int .i64 i, .int .i64 k] w (RStepL w b F (swpD D i k) (inR D i && inR D k)) := by
  by_cases h : (inR D i && inR D k) = true
  · have hh := h
    simp only [Bool.and_eq_true] at hh
    obtain ⟨h1, h2⟩ := inR_yes hh.1
    obtain ⟨h3, h4⟩ := inR_yes hh.2
    have hc := rSwapL i.toNat k.toNat _ _ w hm h1 h3
    rw [h2, h4] at hc
    refine hc.mono ?_
    rintro e w' ⟨rfl, h1, h3⟩
    exact ⟨F, by rw [h], by rw [swpD, if_pos h]; exact h1, fun k hk => .inl hk, h3⟩
  · refine (rSwapNoL i k w hm (inR_two h)).mono ?_
    rintro e w' ⟨rfl, rfl⟩
    exact ⟨F, by rw [Bool.eq_false_iff.2 h], by rw [swpD, if_neg h]; exact hm, fun k hk => .inl hk, Eff.refl _ _⟩
theorem takeS (i : Int) (w : World) (hm : MailL w b F D 0) :
    Calls Try.prog 11 #[.pointer (some ⟨b, 0, none⟩), .int .i64 i] w (TookL w b F (takeD D i) (itemD D i) (inR D i)) := by
  by_cases h : inR D i = true
  · obtain ⟨h1, h2⟩ := inR_yes h
    have hc := takeL i.toNat _ w hm h1
    rw [h2] at hc
    refine hc.mono ?_
    rintro e w' ⟨F', A, c, rfl, h1, h2, h3, _, h5, h6⟩
    refine ⟨F', A, c, ?_, ?_, fun k hk => .inl (h2 k hk), ?_, fun a ha => ⟨(h5 a ha).1, (h5 a ha).2.2⟩, h6⟩
    · rw [h, itemD, if_pos h]
    · rw [takeD, if_pos h]; exact h1
    · rw [itemD, if_pos h]; exact h3
  · refine (takeNoL i w hm (inR_no h)).mono ?_
    rintro e w' ⟨rfl, hb⟩
    refine ⟨F, none, 0, ?_, ?_, fun k hk => .inl hk, ?_, (fun a ha => by cases ha), Eff.of_below hb⟩
    · rw [Bool.eq_false_iff.2 h, itemD, if_neg h]; rfl
    · rw [takeD, if_neg h]; exact hm.below hb
    · rw [itemD, if_neg h]; exact .inl rfl
theorem rTakeS (i : Int) (w : World) (hm : RMailL w b F D 0) (hf : Fits D n) (hn : n ≤ 100) :
    Calls Try.prog 19 #[.pointer (some ⟨b, 0, none⟩), .int .i64 i] w (RTookL w b F (takeD D i) (itemD D i) (inR D i)) := by
  by_cases h : inR D i = true
  · obtain ⟨h1, h2⟩ := inR_yes h
    have hc := rTakeL i.toNat _ w hm h1 (by have := hf.1; omega)
    rw [h2] at hc
    refine hc.mono ?_
    rintro e w' ⟨F', A, c, rfl, h1, h2, h3, _, h5, h6⟩
    refine ⟨F', A, c, ?_, ?_, h2, ?_, fun a ha => ⟨(h5 a ha).1, (h5 a ha).2.2⟩, h6⟩
    · rw [h, itemD, if_pos h]
    · rw [takeD, if_pos h]; exact h1
    · rw [itemD, if_pos h]; exact h3
  · refine (rTakeNoL i w hm (inR_no h)).mono ?_
    rintro e w' ⟨rfl, hb⟩
    refine ⟨F, none, 0, ?_, ?_, fun k hk => .inl hk, ?_, (fun a ha => by cases ha), Eff.of_below hb⟩
    · rw [Bool.eq_false_iff.2 h, itemD, if_neg h]; rfl
    · rw [takeD, if_neg h]; exact hm.below hb
    · rw [itemD, if_neg h]; exact .inl rfl
end

/-- Both mails, a copy, and a thing told, each in blocks of its own. -/
structure Trio (W : World) (b rb cb db : Nat) (dc : List Value) (T : TypeId) (F R C : Nat → Prop) (D E D0 : List Fr) (w : World) : Prop where
  m : MailL w b F D 0
  r : RMailL w rb R E 0
  c : MailL w cb C D0 0
  d : Blk w db dc T
  fr : ∀ j, F j → ¬ R j
  fc : ∀ j, F j → ¬ C j
  rc : ∀ j, R j → ¬ C j
  fd : ¬ F db
  rd : ¬ R db
  gf : ∀ j, F j → W.heap.size ≤ j
  gr : ∀ j, R j → W.heap.size ≤ j
  below : Below W.heap.size W w
section
variable {W : World} {b rb cb db : Nat} {dc : List Value} {T : TypeId} {F R C F' : Nat → Prop} {D E D0 D' : List Fr} {w w' : World}
theorem Trio.mail (h : Trio W b rb cb db dc T F R C D E D0 w) (hm : MailL w' b F' D' 0) (hF : ∀ k, F' k → F k ∨ w.heap.size ≤ k) (he : Eff F w w') : Trio W b rb cb db dc T F' R C D' E D0 w' :=
  ⟨hm, h.r.eff he (fun k hk h2 => h.fr k h2 hk), h.c.eff he (fun k hk h2 => h.fc k h2 hk), he.blk h.d h.fd,
   fun j hj hr => by rcases hF j hj with h2 | h2; exact h.fr j h2 hr; have := h.r.lt j hr; omega,
   fun j hj hr => by rcases hF j hj with h2 | h2; exact h.fc j h2 hr; have := h.c.lt j hr; omega,
   h.rc, fun hj => by rcases hF _ hj with h2 | h2; exact h.fd h2; have := h.d.lt; omega, h.rd,
   fun j hj => by rcases hF j hj with h2 | h2; exact h.gf j h2; exact Nat.le_trans h.below.size h2,
   h.gr, below_own h.below he h.below.size h.gf⟩
theorem Trio.ref (h : Trio W b rb cb db dc T F R C D E D0 w) (hm : RMailL w' rb F' D' 0) (hF : ∀ k, F' k → R k ∨ w.heap.size ≤ k) (he : Eff R w w') : Trio W b rb cb db dc T F F' C D D' D0 w' :=
  ⟨h.m.eff he (fun k hk h2 => h.fr k hk h2), hm, h.c.eff he (fun k hk h2 => h.rc k h2 hk), he.blk h.d h.rd,
   fun j hj hr => by rcases hF j hr with h2 | h2; exact h.fr j hj h2; have := h.m.lt j hj; omega,
   h.fc,
   fun j hj hr => by rcases hF j hj with h2 | h2; exact h.rc j h2 hr; have := h.c.lt j hr; omega,
   h.fd, fun hj => by rcases hF _ hj with h2 | h2; exact h.rd h2; have := h.d.lt; omega,
   h.gf, fun j hj => by rcases hF j hj with h2 | h2; exact h.gr j h2; exact Nat.le_trans h.below.size h2,
   below_own h.below he h.below.size h.gr⟩
theorem Trio.on (h : Trio W b rb cb db dc T F R C D E D0 w) (hb : Below w.heap.size w w') : Trio W b rb cb db dc T F R C D E D0 w' :=
  ⟨h.m.below hb, h.r.below hb, h.c.below hb, (Eff.of_below (S := fun _ => False) hb).blk h.d (fun h => h), h.fr, h.fc, h.rc, h.fd, h.rd, h.gf, h.gr, h.below.trans (hb.mono h.below.size)⟩
end
/-- The document's mail, as it lies. -/
theorem RMailL.form {w : World} {b : Nat} {F : Nat → Prop} {D : List Fr} {lost : Int} (h : RMailL w b F D lost) : ∃ A c, w.cell? ⟨b, 0, none⟩ = some (.slice A D.length c) ∧ w.cell? ⟨b, 1, none⟩ = some (.int .i64 lost) := by
  obtain ⟨v, its, hm, hd, _, _⟩ := h
  obtain ⟨A, c, rfl, _⟩ := Sl.row hm.row
  rw [← map_length hd]
  exact ⟨A, c, hm.blk.cell 0, hm.blk.cell 1⟩
theorem RMailL.item {w : World} {b : Nat} {F : Nat → Prop} {D : List Fr} {lost : Int} (h : RMailL w b F D lost) {k : Nat} {p : Fr} (hp : D[k]? = some p) :
    ∃ g cap A c, w.cell? ⟨b, 0, none⟩ = some (.slice (some ⟨g, 0, none⟩) D.length cap) ∧ D.length ≤ cap ∧ cap ≤ maxLen ∧ w.cell? ⟨g, k * 2, none⟩ = some (.int .i64 p.1) ∧ w.cell? ⟨g, k * 2 + 1, none⟩ = some (.slice A p.2.length c) ∧ Sl w A (p.2.map (Value.int .u8)) := by
  obtain ⟨v, its, hm, hd, _, _⟩ := h
  obtain ⟨x, hx, rfl⟩ := map_get hd hp
  obtain ⟨g, cap, rfl, hc, hm2, x0, x1⟩ := row_item hm.row hx
  have h0 := hm.blk.cell 0
  rw [← map_length hd]
  exact ⟨g, cap, x.A, x.c, h0, hc, hm2, x0, x1, hm.here x (List.mem_of_getElem? hx)⟩
end Go.Proofs.Ytnhfnklbeifbhaa
