/- Frames on their way, as the statements use them: what is there, in order; which blocks are its own. -/
import Derived.Test.YtnhfnklbeifbhaaMailCopy
import Derived.Test.YtnhfnklbeifbhaaMailTake
namespace Go.Proofs.Ytnhfnklbeifbhaa
open Go.RowKit
set_option linter.unusedSimpArgs false

abbrev It.data (x : It) : Int × List Int := (x.dst, x.bs)
/-- No two items' bytes lie in one block. -/
def Dist (its : List It) : Prop := ∀ (i j : Nat) x y, its[i]? = some x → its[j]? = some y → i ≠ j → ∀ a c, x.A = some a → y.A = some c → a.block ≠ c.block
/-- The blocks of a mail. -/
def Foot (b : Nat) (v : Value) (its : List It) (k : Nat) : Prop := k = b ∨ v.ownBlock = some k ∨ ∃ x ∈ its, ∃ a, x.A = some a ∧ a.block = k
def MailL (w : World) (b : Nat) (F : Nat → Prop) (D : List (Int × List Int)) (lost : Int) : Prop :=
  ∃ v its, MailIs w b v its lost ∧ its.map It.data = D ∧ Dist its ∧ ∀ k, Foot b v its k ↔ F k
theorem MailL.lt {w : World} {b : Nat} {F : Nat → Prop} {D : List (Int × List Int)} {lost : Int} (h : MailL w b F D lost) : ∀ k, F k → k < w.heap.size := by
  obtain ⟨v, its, hm, _, _, hF⟩ := h
  intro k hk
  rcases (hF k).2 hk with rfl | h | ⟨x, hx, a, ha, rfl⟩
  · exact hm.blk.lt
  · exact (hm.row.lt k h).2
  · exact hm.old x hx a ha
theorem MailL.eff {S : Nat → Prop} {w w' : World} {b : Nat} {F : Nat → Prop} {D : List (Int × List Int)} {lost : Int} (h : MailL w b F D lost) (he : Eff S w w') (hS : ∀ k, F k → ¬ S k) : MailL w' b F D lost := by
  obtain ⟨v, its, hm, hd, hp, hF⟩ := h
  exact ⟨v, its, hm.eff he (hS _ ((hF _).1 (.inl rfl))) (fun k hk => hS k ((hF k).1 (.inr (.inl hk)))) (fun x hx a ha => hS _ ((hF _).1 (.inr (.inr ⟨x, hx, a, ha, rfl⟩)))), hd, hp, hF⟩
theorem MailL.below {w w' : World} {b : Nat} {F : Nat → Prop} {D : List (Int × List Int)} {lost : Int} (h : MailL w b F D lost) (hb : Below w.heap.size w w') : MailL w' b F D lost :=
  h.eff (Eff.of_below (S := fun _ => False) hb) (fun _ _ h => h)
theorem MailL.drew {w : World} {b : Nat} {F : Nat → Prop} {D : List (Int × List Int)} {lost : Int} (h : MailL w b F D lost) : MailL w.drew b F D lost := by
  obtain ⟨v, its, hm, r⟩ := h
  exact ⟨v, its, hm.drew, r⟩
theorem MailL.own {w : World} {b : Nat} {F : Nat → Prop} {D : List (Int × List Int)} {lost : Int} (h : MailL w b F D lost) : F b := by
  obtain ⟨v, its, hm, _, _, hF⟩ := h
  exact (hF b).1 (.inl rfl)
theorem map_length {its : List It} {D : List (Int × List Int)} (h : its.map It.data = D) : its.length = D.length := by rw [← h, List.length_map]
theorem map_get {its : List It} {D : List (Int × List Int)} (h : its.map It.data = D) {i : Nat} {p : Int × List Int} (hp : D[i]? = some p) : ∃ x, its[i]? = some x ∧ x.data = p := by
  subst h
  rw [List.getElem?_map] at hp
  exact Option.map_eq_some_iff.1 hp

/-- The empty one. -/
theorem MailL.new {w : World} {b : Nat} (h : Blk w b [.slice none 0 0, .int .i64 0] 26) : MailL w b (· = b) [] 0 :=
  ⟨.slice none 0 0, [], ⟨h, World.ownsRow_nil _ _ _ _, (fun e => by cases e), (fun x hx => by cases hx), (fun x hx => by cases hx), (fun x hx => by cases hx), (fun x hx => by cases hx)⟩, rfl, (fun i j x y hx => by simp at hx),
    fun k => ⟨(fun h => by
      rcases h with h | h | ⟨x, hx, _⟩
      · exact h
      · cases h
      · simp at hx), fun h => .inl h⟩⟩

def PutL (w : World) (b : Nat) (F : Nat → Prop) (D : List (Int × List Int)) (lost : Int) (p : Int × List Int) (e : Ending) (w' : World) : Prop :=
  ∃ F', e = .returned (.bool true) ∧ MailL w' b F' (D ++ [p]) lost ∧ (∀ k, F' k → F k ∨ w.heap.size ≤ k) ∧ Eff F w w'
theorem putL_of {w w' : World} {b : Nat} {F : Nat → Prop} {D : List (Int × List Int)} {lost dst : Int} {bs : List Int} {v : Value} {its : List It} {e : Ending} (hm : MailIs w b v its lost) (hd : its.map It.data = D) (hp : Dist its) (hF : ∀ k, Foot b v its k ↔ F k)
    (h : GivesPut w b v its lost dst bs e w') : PutL w b F D lost (dst, bs) e w' := by
  obtain ⟨A, c, v', rfl, hm', hA, hv, he⟩ := h
  refine ⟨Foot b v' (its ++ [⟨dst, A, c, bs⟩]), rfl, ⟨v', _, hm', by rw [List.map_append, hd]; rfl, ?_, fun k => Iff.rfl⟩, fun k hk => ?_, he.mono fun k _ hk => ?_⟩
  · have key : ∀ (i : Nat) x, (its ++ [(⟨dst, A, c, bs⟩ : It)])[i]? = some x → (its[i]? = some x ∧ i < its.length) ∨ (x = ⟨dst, A, c, bs⟩ ∧ i = its.length) := by
      intro i x hx
      by_cases h : i < its.length
      · rw [List.getElem?_append_left h] at hx
        exact .inl ⟨hx, h⟩
      · rw [List.getElem?_append_right (by omega)] at hx
        have h2 : i - its.length = 0 := by
          rcases Nat.eq_zero_or_pos (i - its.length) with h | h
          · exact h
          · rw [List.getElem?_eq_none (by simp; omega)] at hx; cases hx
        rw [h2] at hx
        simp only [List.getElem?_cons_zero, Option.some.injEq] at hx
        exact .inr ⟨hx.symm, by omega⟩
    intro i j x y hx hy hne a c' ha hc
    rcases key i x hx with ⟨hx, hi⟩ | ⟨rfl, hi⟩ <;> rcases key j y hy with ⟨hy, hj⟩ | ⟨rfl, hj⟩
    · exact hp i j x y hx hy hne a c' ha hc
    · have := hm.old x (List.mem_of_getElem? hx) a ha
      have := hA c' hc
      omega
    · have := hm.old y (List.mem_of_getElem? hy) c' hc
      have := hA a ha
      omega
    · omega
  · rcases hk with h | h | ⟨x, hx, a, ha, h⟩
    · exact .inl ((hF k).1 (.inl h))
    · rcases hv k h with h | h
      · exact .inl ((hF k).1 (.inr (.inl h)))
      · exact .inr h
    · rcases List.mem_append.1 hx with hx | hx
      · exact .inl ((hF k).1 (.inr (.inr ⟨x, hx, a, ha, h⟩)))
      · rw [List.mem_singleton] at hx
        subst hx
        exact .inr (by have := hA a ha; omega)
  · rcases hk with h | h
    · exact (hF k).1 (.inl h)
    · exact (hF k).1 (.inr (.inl h))

theorem putL {b : Nat} {F : Nat → Prop} {D : List (Int × List Int)} {lost : Int} (x : It) (w : World) (hm : MailL w b F D lost) (hx : x.here w) (hl : D.length < 4096) (hxl : x.bs.length ≤ 1000000) :
    Calls Try.prog 9 #[.pointer (some ⟨b, 0, none⟩), .int .i64 x.dst, .slice x.A x.bs.length x.c] w (PutL w b F D lost x.data) := by
  obtain ⟨v, its, hm, hd, hp, hF⟩ := hm
  exact (put_any x w hm hx (by rw [map_length hd]; exact hl) hxl).mono fun e w' h => putL_of hm hd hp hF h
theorem copyL {b : Nat} {F : Nat → Prop} {D : List (Int × List Int)} {lost : Int} (i : Nat) (p : Int × List Int) (w : World) (hm : MailL w b F D lost) (hi : D[i]? = some p) (hl : D.length < 4096) (hpl : p.2.length ≤ 1000000) :
    Calls Try.prog 10 #[.pointer (some ⟨b, 0, none⟩), .int .i64 i] w (PutL w b F D lost p) := by
  obtain ⟨v, its, hm, hd, hp, hF⟩ := hm
  obtain ⟨x, hx, rfl⟩ := map_get hd hi
  exact (copy_any i x w hm hx (by rw [map_length hd]; exact hl) hpl).mono fun e w' h => putL_of hm hd hp hF h

def LostL (w : World) (b : Nat) (F : Nat → Prop) (D : List (Int × List Int)) (lost : Int) (e : Ending) (w' : World) : Prop :=
  e = .returned (.bool false) ∧ MailL w' b F D (lost + 1) ∧ Eff F w w'
theorem lostL {b : Nat} {F : Nat → Prop} {D : List (Int × List Int)} {lost : Int} (dst : Int) (A : Option Addr) (n c : Nat) (w : World) (hm : MailL w b F D lost) (hl : 4096 ≤ D.length) (hlost : 0 ≤ lost ∧ lost < 9223372036854775807) :
    Calls Try.prog 9 #[.pointer (some ⟨b, 0, none⟩), .int .i64 dst, .slice A n c] w (LostL w b F D lost) := by
  obtain ⟨v, its, hm, hd, hp, hF⟩ := hm
  refine (putFull_any dst A n c w hm (by rw [map_length hd]; exact hl) hlost).mono ?_
  rintro e w' ⟨rfl, hm', he⟩
  exact ⟨rfl, ⟨v, its, hm', hd, hp, hF⟩, he.mono fun k _ hk => (hF k).1 (.inl hk)⟩
theorem copyLostL {b : Nat} {F : Nat → Prop} {D : List (Int × List Int)} {lost : Int} (i : Nat) (w : World) (hm : MailL w b F D lost) (hi : i < D.length) (hl : 4096 ≤ D.length) (hlost : 0 ≤ lost ∧ lost < 9223372036854775807) :
    Calls Try.prog 10 #[.pointer (some ⟨b, 0, none⟩), .int .i64 i] w (LostL w b F D lost) := by
  obtain ⟨v, its, hm, hd, hp, hF⟩ := hm
  have hi' : i < its.length := by rw [map_length hd]; exact hi
  refine (copyFull_any i its[i] w hm (List.getElem?_eq_getElem hi') (by rw [map_length hd]; exact hl) hlost).mono ?_
  rintro e w' ⟨rfl, hm', he⟩
  exact ⟨rfl, ⟨v, its, hm', hd, hp, hF⟩, he.mono fun k _ hk => (hF k).1 (.inl hk)⟩
theorem copyNoL {b : Nat} {F : Nat → Prop} {D : List (Int × List Int)} {lost : Int} (i : Int) (w : World) (hm : MailL w b F D lost) (hn : ¬ (0 ≤ i ∧ i < D.length)) :
    Calls Try.prog 10 #[.pointer (some ⟨b, 0, none⟩), .int .i64 i] w fun e w' => e = .returned (.bool false) ∧ ∃ q, w' = w.drewN q := by
  obtain ⟨v, its, hm, hd, hp, hF⟩ := hm
  exact copyNo_any i w hm (by rw [map_length hd]; exact hn)
theorem lenL {b : Nat} {F : Nat → Prop} {D : List (Int × List Int)} {lost : Int} (w : World) (hm : MailL w b F D lost) :
    Calls Try.prog 12 #[.pointer (some ⟨b, 0, none⟩)] w fun e w' => e = .returned (.int .i64 D.length) ∧ w = w' := by
  obtain ⟨v, its, hm, hd, hp, hF⟩ := hm
  rw [← map_length hd]
  exact len_any w hm
theorem lostIsL {b : Nat} {F : Nat → Prop} {D : List (Int × List Int)} {lost : Int} (w : World) (hm : MailL w b F D lost) :
    Calls Try.prog 14 #[.pointer (some ⟨b, 0, none⟩)] w fun e w' => e = .returned (.int .i64 lost) ∧ w = w' := by
  obtain ⟨v, its, hm, hd, hp, hF⟩ := hm
  exact lost_any w hm
theorem swapNoL {b : Nat} {F : Nat → Prop} {D : List (Int × List Int)} {lost : Int} (i k : Int) (w : World) (hm : MailL w b F D lost) (hn : ¬ ((0 ≤ i ∧ i < D.length) ∧ (0 ≤ k ∧ k < D.length))) :
    Calls Try.prog 15 #[.pointer (some ⟨b, 0, none⟩), .int .i64 i, .int .i64 k] w fun e w' => e = .returned (.bool false) ∧ w = w' := by
  obtain ⟨v, its, hm, hd, hp, hF⟩ := hm
  exact swapNo_any i k w hm (by rw [map_length hd]; exact hn)

/-- Where an item of the swapped list stood. -/
def swapAt (i k m : Nat) : Nat := if m = k then i else if m = i then k else m
theorem swapAt_inj {i k m n : Nat} (h : swapAt i k m = swapAt i k n) : m = n := by unfold swapAt at h; split at h <;> split at h <;> (try split at h) <;> (try split at h) <;> omega
theorem swapAt_back (i k m : Nat) : swapAt i k (swapAt i k m) = m := by unfold swapAt; split <;> split <;> (try split) <;> omega
theorem swap_get {α : Type} {l : List α} {i k : Nat} {x y : α} (hx : l[i]? = some x) (hy : l[k]? = some y) (m : Nat) : ((l.set i y).set k x)[m]? = l[swapAt i k m]? := by
  have hi := (List.getElem?_eq_some_iff.1 hx).1
  have hk := (List.getElem?_eq_some_iff.1 hy).1
  unfold swapAt
  rw [List.getElem?_set, List.getElem?_set]
  by_cases h1 : k = m
  · subst h1
    simp [hk, hx]
  · have h1' : ¬ m = k := fun e => h1 e.symm
    rw [if_neg h1, if_neg h1']
    by_cases h2 : i = m
    · subst h2
      simp [hi, hy]
    · have h2' : ¬ m = i := fun e => h2 e.symm
      rw [if_neg h2, if_neg h2']
theorem swap_mem {α : Type} {l : List α} {i k : Nat} {x y : α} (hx : l[i]? = some x) (hy : l[k]? = some y) (z : α) : z ∈ ((l.set i y).set k x) ↔ z ∈ l := by
  constructor
  · intro h
    obtain ⟨m, hm⟩ := List.mem_iff_getElem?.1 h
    rw [swap_get hx hy] at hm
    exact List.mem_of_getElem? hm
  · intro h
    obtain ⟨m, hm⟩ := List.mem_iff_getElem?.1 h
    have : ((l.set i y).set k x)[swapAt i k m]? = some z := by rw [swap_get hx hy, swapAt_back, hm]
    exact List.mem_of_getElem? this
def SwapL (w : World) (b : Nat) (F : Nat → Prop) (D : List (Int × List Int)) (lost : Int) (e : Ending) (w' : World) : Prop := e = .returned (.bool true) ∧ MailL w' b F D lost ∧ Eff F w w'
theorem swapL {b : Nat} {F : Nat → Prop} {D : List (Int × List Int)} {lost : Int} (i k : Nat) (p q : Int × List Int) (w : World) (hm : MailL w b F D lost) (hi : D[i]? = some p) (hk : D[k]? = some q) :
    Calls Try.prog 15 #[.pointer (some ⟨b, 0, none⟩), .int .i64 i, .int .i64 k] w (SwapL w b F ((D.set i q).set k p) lost) := by
  obtain ⟨v, its, hm, hd, hp, hF⟩ := hm
  obtain ⟨x, hx, rfl⟩ := map_get hd hi
  obtain ⟨y, hy, rfl⟩ := map_get hd hk
  refine (swap_any i k x y w hm hx hy).mono ?_
  rintro e w' ⟨rfl, hm', he⟩
  have hmem := swap_mem hx hy
  refine ⟨rfl, ⟨v, _, hm', by rw [List.map_set, List.map_set, hd], (fun m n z z' hz hz' hne => hp _ _ z z' (by rw [← swap_get hx hy]; exact hz) (by rw [← swap_get hx hy]; exact hz') (fun e => hne (swapAt_inj e))), fun j => ?_⟩, he.mono fun j _ h => ?_⟩
  · rw [← hF j]
    unfold Foot
    constructor
    · rintro (h | h | ⟨z, hz, r⟩)
      · exact .inl h
      · exact .inr (.inl h)
      · exact .inr (.inr ⟨z, (hmem z).1 hz, r⟩)
    · rintro (h | h | ⟨z, hz, r⟩)
      · exact .inl h
      · exact .inr (.inl h)
      · exact .inr (.inr ⟨z, (hmem z).2 hz, r⟩)
  · rcases h with h | h
    · exact (hF j).1 (.inl h)
    · exact (hF j).1 (.inr (.inl h))

def eraseAt (i m : Nat) : Nat := if m < i then m else m + 1
theorem erase_get {α : Type} (l : List α) (i m : Nat) : (l.eraseIdx i)[m]? = l[eraseAt i m]? := by
  rw [List.getElem?_eraseIdx]
  unfold eraseAt
  split <;> rfl
def TakeL (w : World) (b : Nat) (F : Nat → Prop) (D : List (Int × List Int)) (lost : Int) (p : Int × List Int) (e : Ending) (w' : World) : Prop :=
  ∃ F' A c, e = .returned (.tuple #[.agg #[.int .i64 p.1, .slice A p.2.length c], .bool true]) ∧ MailL w' b F' D lost ∧ (∀ k, F' k → F k) ∧ It.here w' ⟨p.1, A, c, p.2⟩ ∧ It.free w' ⟨p.1, A, c, p.2⟩ ∧
    (∀ a, A = some a → a.block < w.heap.size ∧ ¬ F' a.block ∧ F a.block) ∧ Eff F w w'
theorem takeL {b : Nat} {F : Nat → Prop} {D : List (Int × List Int)} {lost : Int} (i : Nat) (p : Int × List Int) (w : World) (hm : MailL w b F D lost) (hi : D[i]? = some p) :
    Calls Try.prog 11 #[.pointer (some ⟨b, 0, none⟩), .int .i64 i] w (TakeL w b F (D.eraseIdx i) lost p) := by
  obtain ⟨v, its, hm, hd, hp, hF⟩ := hm
  obtain ⟨x, hx, rfl⟩ := map_get hd hi
  refine (take_any i x w hm hx).mono ?_
  rintro e w' ⟨v', rfl, hm', hh, hfr, ho, hv, he⟩
  have hxm := List.mem_of_getElem? hx
  refine ⟨Foot b v' (its.eraseIdx i), x.A, x.c, rfl, ⟨v', _, hm', ?_, ?_, fun k => Iff.rfl⟩, fun k hk => ?_, hh, hfr, fun a ha => ⟨ho a ha, ?_, (hF _).1 (.inr (.inr ⟨x, hxm, a, ha, rfl⟩))⟩, he.mono fun k _ h => ?_⟩
  · rw [← hd]
    rw [List.eraseIdx_eq_take_drop_succ, List.eraseIdx_eq_take_drop_succ, List.map_append, List.map_take, List.map_drop]
  · intro m n z z' hz hz' hne
    rw [erase_get] at hz hz'
    exact hp _ _ z z' hz hz' (fun e => hne (by unfold eraseAt at e; split at e <;> split at e <;> omega))
  · rcases hk with h | h | ⟨z, hz, r⟩
    · exact (hF k).1 (.inl h)
    · exact (hF k).1 (.inr (.inl (by rw [← hv]; exact h)))
    · exact (hF k).1 (.inr (.inr ⟨z, List.mem_of_mem_eraseIdx hz, r⟩))
  · rintro (h | h | ⟨z, hz, c, hc, h⟩)
    · exact hm.off x hxm a ha (.inl h)
    · exact hm.off x hxm a ha (.inr (by rw [← hv]; exact h))
    · obtain ⟨j, hj⟩ := List.mem_iff_getElem?.1 hz
      rw [erase_get] at hj
      exact hp _ i z x hj hx (by unfold eraseAt; split <;> omega) c a hc ha h
  · rcases h with h | h
    · exact (hF k).1 (.inl h)
    · exact (hF k).1 (.inr (.inl h))
theorem takeNoL {b : Nat} {F : Nat → Prop} {D : List (Int × List Int)} {lost : Int} (i : Int) (w : World) (hm : MailL w b F D lost) (hn : ¬ (0 ≤ i ∧ i < D.length)) :
    Calls Try.prog 11 #[.pointer (some ⟨b, 0, none⟩), .int .i64 i] w fun e w' => e = .returned (.tuple #[.agg #[.int .i64 0, .slice none 0 0], .bool false]) ∧ Below w.heap.size w w' := by
  obtain ⟨v, its, hm, hd, hp, hF⟩ := hm
  exact takeNo_any i w hm (by rw [map_length hd]; exact hn)
end Go.Proofs.Ytnhfnklbeifbhaa
