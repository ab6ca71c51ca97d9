/- The document's frames on their way, as the statements use them. -/
import Derived.Test.YtnhfnklbeifbhaaRefSwap
import Derived.Test.YtnhfnklbeifbhaaMailLaw
namespace Go.Proofs.Ytnhfnklbeifbhaa
open Go.RowKit
set_option linter.unusedSimpArgs false

def RMailL (w : World) (b : Nat) (F : Nat → Prop) (D : List (Int × List Int)) (lost : Int) : Prop :=
  ∃ v its, RMailIs w b v its lost ∧ its.map It.data = D ∧ Dist its ∧ ∀ k, Foot b v its k ↔ F k
theorem RMailL.lt {w : World} {b : Nat} {F : Nat → Prop} {D : List (Int × List Int)} {lost : Int} (h : RMailL w b F D lost) : ∀ k, F k → k < w.heap.size := by
  obtain ⟨v, its, hm, _, _, hF⟩ := h
  intro k hk
  rcases (hF k).2 hk with rfl | h | ⟨x, hx, a, ha, rfl⟩
  · exact hm.blk.lt
  · exact (hm.row.lt k h).2
  · exact hm.old x hx a ha
theorem RMailL.eff {S : Nat → Prop} {w w' : World} {b : Nat} {F : Nat → Prop} {D : List (Int × List Int)} {lost : Int} (h : RMailL w b F D lost) (he : Eff S w w') (hS : ∀ k, F k → ¬ S k) : RMailL w' b F D lost := by
  obtain ⟨v, its, hm, hd, hp, hF⟩ := h
  exact ⟨v, its, hm.eff he (hS _ ((hF _).1 (.inl rfl))) (fun k hk => hS k ((hF k).1 (.inr (.inl hk)))) (fun x hx a ha => hS _ ((hF _).1 (.inr (.inr ⟨x, hx, a, ha, rfl⟩)))), hd, hp, hF⟩
theorem RMailL.below {w w' : World} {b : Nat} {F : Nat → Prop} {D : List (Int × List Int)} {lost : Int} (h : RMailL w b F D lost) (hb : Below w.heap.size w w') : RMailL w' b F D lost :=
  h.eff (Eff.of_below (S := fun _ => False) hb) (fun _ _ h => h)
theorem RMailL.drew {w : World} {b : Nat} {F : Nat → Prop} {D : List (Int × List Int)} {lost : Int} (h : RMailL w b F D lost) : RMailL w.drew b F D lost := by
  obtain ⟨v, its, hm, r⟩ := h
  exact ⟨v, its, hm.drew, r⟩
theorem RMailL.own {w : World} {b : Nat} {F : Nat → Prop} {D : List (Int × List Int)} {lost : Int} (h : RMailL w b F D lost) : F b := by
  obtain ⟨v, its, hm, _, _, hF⟩ := h
  exact (hF b).1 (.inl rfl)
/-- The empty one. -/
theorem RMailL.new {w : World} {b : Nat} (h : Blk w b [.slice none 0 0, .int .i64 0] 44) : RMailL w b (· = b) [] 0 :=
  ⟨.slice none 0 0, [], ⟨h, World.ownsRow_nil _ _ _ _, (fun e => by cases e), (fun x hx => by cases hx), (fun x hx => by cases hx), (fun x hx => by cases hx), (fun x hx => by cases hx)⟩, rfl, (fun i j x y hx => by simp at hx),
    fun k => ⟨(fun h => by
      rcases h with h | h | ⟨x, hx, _⟩
      · exact h
      · cases h
      · simp at hx), fun h => .inl h⟩⟩

def RPutL (w : World) (b : Nat) (F : Nat → Prop) (D : List (Int × List Int)) (lost : Int) (p : Int × List Int) (e : Ending) (w' : World) : Prop :=
  ∃ F', e = .returned (.bool true) ∧ RMailL w' b F' (D ++ [p]) lost ∧ (∀ k, F' k → F k ∨ w.heap.size ≤ k) ∧ Eff F w w'
theorem rPutL_of {w w' : World} {b : Nat} {F : Nat → Prop} {D : List (Int × List Int)} {lost dst : Int} {bs : List Int} {v : Value} {its : List It} {e : Ending} (hm : RMailIs w b v its lost) (hd : its.map It.data = D) (hp : Dist its) (hF : ∀ k, Foot b v its k ↔ F k)
    (h : RGivesPut w b v its lost dst bs e w') : RPutL w b F D lost (dst, bs) e w' := by
  obtain ⟨A, c, v', rfl, hm', hA, hv, he⟩ := h
  refine ⟨Foot b v' (its ++ [⟨dst, A, c, bs⟩]), rfl, ⟨v', _, hm', by rw [List.map_append, hd]; rfl, ?_, fun k => Iff.rfl⟩, fun k hk => ?_, he.mono fun k _ hk => ?_⟩
  · have key : ∀ (i : Nat) x, (its ++ [(⟨dst, A, c, bs⟩ : It)])[i]? = some x → (its[i]? = some x ∧ i < its.length) ∨ (x = ⟨dst, A, c, bs⟩ ∧ i = its.length) := by
      intro i x hx
      by_cases h : i < its.length
      · rw [List.getElem?_append_left h] at hx
        exact .inl ⟨hx, h⟩
      · rw [List.getElem?_append_right (by omega)] at hx
        have h2 : i - its.length = 0 := by
          rcases Nat.eq_zero_or_pos (i - its.length) with h | h
          · exact h
          · rw [List.getElem?_eq_none (by simp; omega)] at hx; cases hx
        rw [h2] at hx
        simp only [List.getElem?_cons_zero, Option.some.injEq] at hx
        exact .inr ⟨hx.symm, by omega⟩
    intro i j x y hx hy hne a c' ha hc
    rcases key i x hx with ⟨hx, hi⟩ | ⟨rfl, hi⟩ <;> rcases key j y hy with ⟨hy, hj⟩ | ⟨rfl, hj⟩
    · exact hp i j x y hx hy hne a c' ha hc
    · have := hm.old x (List.mem_of_getElem? hx) a ha
      have := hA c' hc
      omega
    · have := hm.old y (List.mem_of_getElem? hy) c' hc
      have := hA a ha
      omega
    · omega
  · rcases hk with h | h | ⟨x, hx, a, ha, h⟩
    · exact .inl ((hF k).1 (.inl h))
    · rcases hv k h with h | h
      · exact .inl ((hF k).1 (.inr (.inl h)))
      · exact .inr h
    · rcases List.mem_append.1 hx with hx | hx
      · exact .inl ((hF k).1 (.inr (.inr ⟨x, hx, a, ha, h⟩)))
      · rw [List.mem_singleton] at hx
        subst hx
        exact .inr (by have := hA a ha; omega)
  · rcases hk with h | h
    · exact (hF k).1 (.inl h)
    · exact (hF k).1 (.inr (.inl h))

theorem rPutL {b : Nat} {F : Nat → Prop} {D : List (Int × List Int)} {lost : Int} (x : It) (w : World) (hm : RMailL w b F D lost) (hx : x.here w) (hl : D.length < 4096) (hxl : x.bs.length ≤ 1000000) :
    Calls Try.prog 18 #[.pointer (some ⟨b, 0, none⟩), .int .i64 x.dst, .slice x.A x.bs.length x.c] w (RPutL w b F D lost x.data) := by
  obtain ⟨v, its, hm, hd, hp, hF⟩ := hm
  exact (rPut_any x w hm hx (by rw [map_length hd]; exact hl) hxl).mono fun e w' h => rPutL_of hm hd hp hF h
theorem againL {b : Nat} {F : Nat → Prop} {D : List (Int × List Int)} {lost : Int} (i : Nat) (p : Int × List Int) (w : World) (hm : RMailL w b F D lost) (hi : D[i]? = some p) (hl : D.length < 4096) (hpl : p.2.length ≤ 1000000) :
    Calls Try.prog 20 #[.pointer (some ⟨b, 0, none⟩), .int .i64 i] w (RPutL w b F D lost p) := by
  obtain ⟨v, its, hm, hd, hp, hF⟩ := hm
  obtain ⟨x, hx, rfl⟩ := map_get hd hi
  exact (again_any i x w hm hx (by rw [map_length hd]; exact hl) hpl).mono fun e w' h => rPutL_of hm hd hp hF h

def RLostL (w : World) (b : Nat) (F : Nat → Prop) (D : List (Int × List Int)) (lost : Int) (e : Ending) (w' : World) : Prop :=
  e = .returned (.bool false) ∧ RMailL w' b F D (lost + 1) ∧ Eff F w w'
theorem rLostL {b : Nat} {F : Nat → Prop} {D : List (Int × List Int)} {lost : Int} (dst : Int) (A : Option Addr) (n c : Nat) (w : World) (hm : RMailL w b F D lost) (hl : 4096 ≤ D.length) (hlost : 0 ≤ lost ∧ lost < 9223372036854775807) :
    Calls Try.prog 18 #[.pointer (some ⟨b, 0, none⟩), .int .i64 dst, .slice A n c] w (RLostL w b F D lost) := by
  obtain ⟨v, its, hm, hd, hp, hF⟩ := hm
  refine (rPutFull_any dst A n c w hm (by rw [map_length hd]; exact hl) hlost).mono ?_
  rintro e w' ⟨rfl, hm', he⟩
  exact ⟨rfl, ⟨v, its, hm', hd, hp, hF⟩, he.mono fun k _ hk => (hF k).1 (.inl hk)⟩
theorem againLostL {b : Nat} {F : Nat → Prop} {D : List (Int × List Int)} {lost : Int} (i : Nat) (w : World) (hm : RMailL w b F D lost) (hi : i < D.length) (hl : 4096 ≤ D.length) (hlost : 0 ≤ lost ∧ lost < 9223372036854775807) :
    Calls Try.prog 20 #[.pointer (some ⟨b, 0, none⟩), .int .i64 i] w (RLostL w b F D lost) := by
  obtain ⟨v, its, hm, hd, hp, hF⟩ := hm
  have hi' : i < its.length := by rw [map_length hd]; exact hi
  refine (againFull_any i its[i] w hm (List.getElem?_eq_getElem hi') (by rw [map_length hd]; exact hl) hlost).mono ?_
  rintro e w' ⟨rfl, hm', he⟩
  exact ⟨rfl, ⟨v, its, hm', hd, hp, hF⟩, he.mono fun k _ hk => (hF k).1 (.inl hk)⟩
theorem againNoL {b : Nat} {F : Nat → Prop} {D : List (Int × List Int)} {lost : Int} (i : Int) (w : World) (hm : RMailL w b F D lost) (hn : ¬ (0 ≤ i ∧ i < D.length)) :
    Calls Try.prog 20 #[.pointer (some ⟨b, 0, none⟩), .int .i64 i] w fun e w' => e = .returned (.bool false) ∧ w = w' := by
  obtain ⟨v, its, hm, hd, hp, hF⟩ := hm
  exact againNo_any i w hm (by rw [map_length hd]; exact hn)
theorem rSwapNoL {b : Nat} {F : Nat → Prop} {D : List (Int × List Int)} {lost : Int} (i k : Int) (w : World) (hm : RMailL w b F D lost) (hn : ¬ ((0 ≤ i ∧ i < D.length) ∧ (0 ≤ k ∧ k < D.length))) :
    Calls Try.prog 21 #[.pointer (some ⟨b, 0, none⟩), .int .i64 i, .int .i64 k] w fun e w' => e = .returned (.bool false) ∧ w = w' := by
  obtain ⟨v, its, hm, hd, hp, hF⟩ := hm
  exact rSwapNo_any i k w hm (by rw [map_length hd]; exact hn)

def RSwapL (w : World) (b : Nat) (F : Nat → Prop) (D : List (Int × List Int)) (lost : Int) (e : Ending) (w' : World) : Prop := e = .returned (.bool true) ∧ RMailL w' b F D lost ∧ Eff F w w'
theorem rSwapL {b : Nat} {F : Nat → Prop} {D : List (Int × List Int)} {lost : Int} (i k : Nat) (p q : Int × List Int) (w : World) (hm : RMailL w b F D lost) (hi : D[i]? = some p) (hk : D[k]? = some q) :
    Calls Try.prog 21 #[.pointer (some ⟨b, 0, none⟩), .int .i64 i, .int .i64 k] w (RSwapL w b F ((D.set i q).set k p) lost) := by
  obtain ⟨v, its, hm, hd, hp, hF⟩ := hm
  obtain ⟨x, hx, rfl⟩ := map_get hd hi
  obtain ⟨y, hy, rfl⟩ := map_get hd hk
  refine (rSwap_any i k x y w hm hx hy).mono ?_
  rintro e w' ⟨rfl, hm', he⟩
  have hmem := swap_mem hx hy
  refine ⟨rfl, ⟨v, _, hm', by rw [List.map_set, List.map_set, hd], (fun m n z z' hz hz' hne => hp _ _ z z' (by rw [← swap_get hx hy]; exact hz) (by rw [← swap_get hx hy]; exact hz') (fun e => hne (swapAt_inj e))), fun j => ?_⟩, he.mono fun j _ h => ?_⟩
  · rw [← hF j]
    unfold Foot
    constructor
    · rintro (h | h | ⟨z, hz, r⟩)
      · exact .inl h
      · exact .inr (.inl h)
      · exact .inr (.inr ⟨z, (hmem z).1 hz, r⟩)
    · rintro (h | h | ⟨z, hz, r⟩)
      · exact .inl h
      · exact .inr (.inl h)
      · exact .inr (.inr ⟨z, (hmem z).2 hz, r⟩)
  · rcases h with h | h
    · exact (hF j).1 (.inl h)
    · exact (hF j).1 (.inr (.inl h))

def RTakeL (w : World) (b : Nat) (F : Nat → Prop) (D : List (Int × List Int)) (lost : Int) (p : Int × List Int) (e : Ending) (w' : World) : Prop :=
  ∃ F' A c, e = .returned (.tuple #[.agg #[.int .i64 p.1, .slice A p.2.length c], .bool true]) ∧ RMailL w' b F' D lost ∧ (∀ k, F' k → F k ∨ w.heap.size ≤ k) ∧ It.here w' ⟨p.1, A, c, p.2⟩ ∧ It.free w' ⟨p.1, A, c, p.2⟩ ∧
    (∀ a, A = some a → a.block < w.heap.size ∧ ¬ F' a.block ∧ F a.block) ∧ Eff F w w'
theorem rTakeL {b : Nat} {F : Nat → Prop} {D : List (Int × List Int)} {lost : Int} (i : Nat) (p : Int × List Int) (w : World) (hm : RMailL w b F D lost) (hi : D[i]? = some p) (hl : D.length ≤ 100000) :
    Calls Try.prog 19 #[.pointer (some ⟨b, 0, none⟩), .int .i64 i] w (RTakeL w b F (D.eraseIdx i) lost p) := by
  obtain ⟨v, its, hm, hd, hp, hF⟩ := hm
  obtain ⟨x, hx, rfl⟩ := map_get hd hi
  refine (rTake_any i x w hm hx (by rw [map_length hd]; exact hl)).mono ?_
  rintro e w' ⟨v', rfl, hm', hh, hfr, ho, hv, he⟩
  have hxm := List.mem_of_getElem? hx
  refine ⟨Foot b v' (its.eraseIdx i), x.A, x.c, rfl, ⟨v', _, hm', ?_, ?_, fun k => Iff.rfl⟩, fun k hk => ?_, hh, hfr, fun a ha => ⟨ho a ha, ?_, (hF _).1 (.inr (.inr ⟨x, hxm, a, ha, rfl⟩))⟩, he.mono fun k _ h => ?_⟩
  · rw [← hd]
    rw [List.eraseIdx_eq_take_drop_succ, List.eraseIdx_eq_take_drop_succ, List.map_append, List.map_take, List.map_drop]
  · intro m n z z' hz hz' hne
    rw [erase_get] at hz hz'
    exact hp _ _ z z' hz hz' (fun e => hne (by unfold eraseAt at e; split at e <;> split at e <;> omega))
  · rcases hk with h | h | ⟨z, hz, r⟩
    · exact .inl ((hF k).1 (.inl h))
    · exact .inr (hv k h)
    · exact .inl ((hF k).1 (.inr (.inr ⟨z, List.mem_of_mem_eraseIdx hz, r⟩)))
  · rintro (h | h | ⟨z, hz, c, hc, h⟩)
    · exact hm.off x hxm a ha (.inl h)
    · have := hv _ h; have := ho a ha; omega
    · obtain ⟨j, hj⟩ := List.mem_iff_getElem?.1 hz
      rw [erase_get] at hj
      exact hp _ i z x hj hx (by unfold eraseAt; split <;> omega) c a hc ha h
  · rcases h with h | h
    · exact (hF k).1 (.inl h)
    · exact (hF k).1 (.inr (.inl h))
theorem rTakeNoL {b : Nat} {F : Nat → Prop} {D : List (Int × List Int)} {lost : Int} (i : Int) (w : World) (hm : RMailL w b F D lost) (hn : ¬ (0 ≤ i ∧ i < D.length)) :
    Calls Try.prog 19 #[.pointer (some ⟨b, 0, none⟩), .int .i64 i] w (TakeNo w) := by
  obtain ⟨v, its, hm, hd, hp, hF⟩ := hm
  exact rTakeNo_any i w hm (by rw [map_length hd]; exact hn)
end Go.Proofs.Ytnhfnklbeifbhaa
