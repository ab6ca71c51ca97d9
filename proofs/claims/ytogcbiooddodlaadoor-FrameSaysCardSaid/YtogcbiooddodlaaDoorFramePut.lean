/- Frames: numbers laid one behind the other; a beat's bytes. -/
import Derived.Test.YtogcbiooddodlaaDoorFrameBeat
namespace Go.Proofs.YtogcbiooddodlaaDoor
open Go.RowKit
set_option linter.unusedSimpArgs false

def GivesSlB (w : World) (xs : List Int) (e : Ending) (w' : World) : Prop := ∃ A c, e = .returned (.slice A xs.length c) ∧ Sl w' A (xs.map (Value.int .u8)) ∧ Below w.heap.size w w'
def PutVRel (w : World) (xs ns : List Int) (v i : Value) (wr : World) : Prop :=
  ∃ (k : Nat) (A : Option Addr) (c : Nat), k ≤ ns.length ∧ i = .int .i64 k ∧ v = .slice A (xs ++ cat (ns.take k)).length c ∧ Sl wr A ((xs ++ cat (ns.take k)).map (Value.int .u8)) ∧ Below w.heap.size w wr
attribute [irreducible] PutVRel
set_option maxRecDepth 100000 in
set_option maxHeartbeats 1600000 in
theorem putV_any (A : Option Addr) (c : Nat) (xs : List Int) (B : Option Addr) (d : Nat) (ns : List Int) (w : World) (hs : Sl w A (xs.map (Value.int .u8))) (hn : Sl w B (ns.map (Value.int .i64))) (hl : xs.length ≤ 1000) (hnl : ns.length ≤ 100) (hin : ∀ n ∈ ns, inI n) :
    Calls Tryd.prog 54 #[.slice A xs.length c, .slice B ns.length d] w (GivesSlB w (xs ++ cat ns)) := by
  have hcl : ∀ k, (cat (ns.take k)).length ≤ 1000 := fun k => by
    have h1 := cat_len (xs := ns.take k) (fun n hn => hin n (List.mem_of_mem_take hn))
    rw [List.length_take] at h1
    omega
  have HC := hid hcl
  clear hcl
  go_enter Tryd.func54, Tryd.ntmps54
  go_wp2_with fail
  go_loopw [0, 9] (fun v i wr => PutVRel w xs ns v i wr) (fun _ i _ => ns.length - (intOf i).toNat)
  case atStart => unfold PutVRel; exact ⟨0, A, c, by omega, rfl, by simp [cat], by simpa [cat] using hs, Below.refl _ _⟩
  case round =>
    unfold PutVRel at hrel
    obtain ⟨k, A1, c1, hk, rfl, rfl, hs1, hB⟩ := hrel
    by_cases hlt : k < ns.length
    · obtain ⟨b0, o0, rfl, hbw, hcx⟩ := hn.at (by rw [List.length_map]; omega)
      have hcc : wr.cell? ⟨b0, o0 + k, none⟩ = some (.int .i64 ns[k]) := (hB.cell (p := ⟨b0, o0 + k, none⟩) hbw).trans ((hcx k (by rw [List.length_map]; omega)).trans (by simp))
      have HP := hid (putW_any ns[k] (hin _ (List.getElem_mem hlt)) A1 c1 _ wr hs1 (by rw [List.length_append]; have := HC.out k; omega))
      have HS : Hid (xs ++ cat (ns.take (k + 1)) = xs ++ cat (ns.take k) ++ form (zz ns[k])) := by rw [Hid, cat_succ hlt, List.append_assoc]
      have hlt' : (k : Int) < ns.length := by omega
      obtain ⟨X, hX⟩ : ∃ X, xs ++ cat (ns.take k) = X := ⟨_, rfl⟩
      rw [hX] at HP HS ⊢
      generalize ns[k] = x at *
      clear hcx hs1 hX
      go_wp2_with fail
      refine HP.out.mono ?_
      rintro e w3 ⟨v3, rfl, hown, hb3⟩
      rw [← HS.out] at hown
      obtain ⟨A3, c3, rfl, _, _, hs3⟩ := Sl.row hown
      clear hown HP
      have hB3 := hB.trans (hb3.mono hB.size)
      have HF := hid (And.intro hs3 hB3)
      clear hs3 hB3 hb3
      go_wp2_with fail
      go_roundw
      case rel => unfold PutVRel; exact ⟨k + 1, A3, c3, by omega, by go_num, by rw [List.length_append], HF.out.1, HF.out.2⟩
      case measure => simp [intOf]; omega
    · obtain rfl : ns.length = k := by omega
      rw [List.take_length] at hs1 ⊢
      have HF := hid (And.intro hs1 hB)
      clear hs1 hB
      go_wp2_with fail
      go_ret
      exact ⟨A1, c1, by rw [List.length_append]; rfl, HF.out.1, HF.out.2⟩

def bit (out : Bool) : Int := if out then 1 else 0
def beatN (f t life seen : Int) (out : Bool) : List Int := [40, -1, f, t, life, seen, bit out]
def beatB (f t life seen : Int) (out : Bool) : List Int := cat (beatN f t life seen out)
theorem form_40 : form (zz 40) = [80] := by rw [show zz 40 = 80 from rfl, form_small (by omega)]; rfl
theorem beat_two (f t : Int) : [80, 1] ++ cat [f, t] = cat [40, -1, f, t] := by
  have e : cat [40, -1, f, t] = form (zz 40) ++ (form (zz (-1)) ++ cat [f, t]) := by simp [cat]
  rw [e, form_40, form_1]
  rfl
theorem beat_all (f t life seen : Int) (out : Bool) : cat [40, -1, f, t] ++ cat [life, seen, bit out] = beatB f t life seen out := by simp [beatB, beatN, cat]
theorem sl_ints (w : World) (ns : List Int) (E : TypeId) : Sl (w.alloc (.cells (ns.map (Value.int .i64)).toArray E)) (some ⟨w.heap.size, 0, none⟩) (ns.map (Value.int .i64)) :=
  .inr ⟨w.heap.size, 0, rfl, by simp, fun k _ => by rw [Nat.zero_add]; exact (Blk.new w (ns.map (Value.int .i64)) E).cell k⟩
def GivesBytesB (w : World) (B : List Int) (e : Ending) (w' : World) : Prop := ∃ A c, e = .returned (.tuple #[.slice A B.length c, .nilIface]) ∧ Sl w' A (B.map (Value.int .u8)) ∧ Below w.heap.size w w'
set_option maxRecDepth 100000 in
set_option maxHeartbeats 4000000 in
theorem bytesBad_any {ad : Int → Addr} (f t life seen : Int) (out : Bool) (w : World) (hE : Errs3 ad w) (hf : 0 ≤ f ∧ f < 16) (ht : 0 ≤ t ∧ t < 16) (hb : beatE life seen 0 ≠ 0) :
    Calls Tryd.prog 33 #[.agg (beatC 1 f t life seen out 0)] w fun e w' => e = .returned (.tuple #[.slice none 0 0, errV ad 103]) ∧ Below w.heap.size w w' := by
  have hk : beatE life seen 0 = 103 := by
    unfold beatE at hb ⊢
    split
    · rename_i h; rw [if_pos h] at hb; exact absurd rfl hb
    · rfl
  have hb1 : Below w.heap.size w (w.alloc (.cells (beatC 1 f t life seen out 0) 64)) := (Below.refl _ _).alloc (Nat.le_refl _) _
  have hv := valid_any f t life seen out 0 _ (hE.below hb1) hf ht
  rw [hk] at hv
  clear hk hb hE
  go_enter Tryd.func33, Tryd.ntmps33
  go_wp2_with fail
  refine hv.mono ?_
  rintro e w2 ⟨rfl, hb2⟩
  rw [errV_ne ad (by decide)]
  have hb3 := hb1.trans (hb2.mono hb1.size)
  clear hv
  go_wp2_with fail
  go_ret2
  exact ⟨rfl, hb3⟩
set_option maxRecDepth 100000 in
set_option maxHeartbeats 4000000 in
theorem bytesOk_any {ad : Int → Addr} (f t life seen : Int) (out : Bool) (w : World) (hE : Errs3 ad w) (hf : 0 ≤ f ∧ f < 16) (ht : 0 ≤ t ∧ t < 16) (hb : beatE life seen 0 = 0) (hl : inI life) (hs : inI seen) :
    Calls Tryd.prog 33 #[.agg (beatC 1 f t life seen out 0)] w (GivesBytesB w (beatB f t life seen out)) := by
  have hb1 : Below w.heap.size w (w.alloc (.cells (beatC 1 f t life seen out 0) 64)) := (Below.refl _ _).alloc (Nat.le_refl _) _
  have hx1 : Blk (w.alloc (.cells (beatC 1 f t life seen out 0) 64)) w.heap.size [.int .i64 1, .int .i64 f, .int .i64 t, .int .i64 life, .int .i64 seen, .bool out, .int .i64 0, .int .i64 0, .int .i64 0, .slice none 0 0, .slice none 0 0] 64 := Blk.new w _ _
  have hv := valid_any f t life seen out 0 _ (hE.below hb1) hf ht
  rw [hb] at hv
  have HIN := hid (And.intro hl hs)
  have HFT := hid (And.intro hf ht)
  clear hE hb hl hs hf ht
  go_enter Tryd.func33, Tryd.ntmps33
  go_wp2_with fail
  refine hv.mono ?_
  rintro e w2 ⟨rfl, hb2⟩
  rw [errV_zero]
  have hx2 := (Eff.of_below (S := fun _ => False) hb2).blk hx1 (fun h => h)
  have hB2 := hb1.trans (hb2.mono hb1.size)
  have k0 : w2.cell? ⟨w.heap.size, 0, none⟩ = some (.int .i64 1) := hx2.cell 0
  have k1 : w2.cell? ⟨w.heap.size, 1, none⟩ = some (.int .i64 f) := hx2.cell 1
  have k2 : w2.cell? ⟨w.heap.size, 2, none⟩ = some (.int .i64 t) := hx2.cell 2
  have hlx := hx2.lt
  clear hv hx1 hb2 hb1
  go_wp2_with fail
  have hbA : Below w2.heap.size w2 (w2.alloc (.cells #[.int .u8 80, .int .u8 1] 5)) := (Below.refl _ _).alloc (Nat.le_refl _) _
  have hbB : Below (w2.alloc (.cells #[.int .u8 80, .int .u8 1] 5)).heap.size (w2.alloc (.cells #[.int .u8 80, .int .u8 1] 5)) ((w2.alloc (.cells #[.int .u8 80, .int .u8 1] 5)).alloc (.cells #[.int .i64 f, .int .i64 t] 2)) := (Below.refl _ _).alloc (Nat.le_refl _) _
  have hsA : Sl ((w2.alloc (.cells #[.int .u8 80, .int .u8 1] 5)).alloc (.cells #[.int .i64 f, .int .i64 t] 2)) (some ⟨w2.heap.size, 0, none⟩) ([80, 1].map (Value.int .u8)) := It2 (sl_lit w2 [80, 1] 5) hbB
  have hnB := sl_ints (w2.alloc (.cells #[.int .u8 80, .int .u8 1] 5)) [f, t] 2
  rw [show (w2.alloc (.cells #[.int .u8 80, .int .u8 1] 5)).heap.size = w2.heap.size + 1 from by simp] at hnB
  have hB3 := hB2.trans ((hbA.trans (hbB.mono hbA.size)).mono hB2.size)
  have hx3 := (Eff.of_below (S := fun _ => False) (hbA.trans (hbB.mono hbA.size))).blk hx2 (fun h => h)
  have hp := putV_any (some ⟨w2.heap.size, 0, none⟩) 2 [80, 1] (some ⟨w2.heap.size + 1, 0, none⟩) 2 [f, t] _ hsA hnB (by simp) (by simp) (by
    intro n hn
    have h1 := HFT.out
    simp only [List.mem_cons, List.not_mem_nil, or_false] at hn
    unfold inI
    rcases hn with rfl | rfl <;> omega)
  rw [beat_two] at hp
  clear hbA hbB hsA hnB hx2 hB2 k0 k1 k2
  refine hp.mono ?_
  rintro e w5 ⟨A5, c5, rfl, hs5, hb5⟩
  have hx5 := (Eff.of_below (S := fun _ => False) hb5).blk hx3 (fun h => h)
  have hB5 := hB3.trans (hb5.mono hB3.size)
  have hlen5 : (cat [40, -1, f, t]).length ≤ 1000 := by
    have h1 := HFT.out
    have := cat_len (xs := [40, -1, f, t]) (by
      intro n hn
      simp only [List.mem_cons, List.not_mem_nil, or_false] at hn
      unfold inI
      rcases hn with rfl | rfl | rfl | rfl <;> omega)
    simp only [List.length_cons, List.length_nil] at this
    omega
  have k0 : w5.cell? ⟨w.heap.size, 0, none⟩ = some (.int .i64 1) := hx5.cell 0
  have k3 : w5.cell? ⟨w.heap.size, 3, none⟩ = some (.int .i64 life) := hx5.cell 3
  have k4 : w5.cell? ⟨w.heap.size, 4, none⟩ = some (.int .i64 seen) := hx5.cell 4
  have k5 : w5.cell? ⟨w.heap.size, 5, none⟩ = some (.bool out) := hx5.cell 5
  clear hp hx3 hb5 hB3 hx5
  have hall := beat_all f t life seen out
  have HA := hid hall
  clear hall
  have hbC := (Below.refl w5.heap.size w5).alloc (Nat.le_refl _) (.cells #[.int .i64 life, .int .i64 seen, .int .i64 (bit out)] 2)
  have hp2 : ∀ d, _ := fun d => putV_any A5 c5 (cat [40, -1, f, t]) (some ⟨w5.heap.size, 0, none⟩) d [life, seen, bit out] _ (It2 hs5 hbC) (sl_ints w5 [life, seen, bit out] 2) hlen5 (by simp) (by
    intro n hn
    have h1 := HIN.out
    simp only [List.mem_cons, List.not_mem_nil, or_false] at hn
    rcases hn with rfl | rfl | rfl
    · exact h1.1
    · exact h1.2
    · unfold inI bit; cases out <;> simp)
  rw [HA.out] at hp2
  have hB6 := hB5.trans (hbC.mono hB5.size)
  generalize cat [40, -1, f, t] = X at *
  clear hs5 hbC
  cases out
  all_goals
    go_wp2_with fail
    refine (hp2 3).mono ?_
    rintro e w7 ⟨A7, c7, rfl, hs7, hb7⟩
    have hB7 := hB6.trans (hb7.mono hB6.size)
    go_wp2_with fail
    go_ret2
    exact ⟨A7, c7, rfl, hs7, hB7⟩
end Go.Proofs.YtogcbiooddodlaaDoor
