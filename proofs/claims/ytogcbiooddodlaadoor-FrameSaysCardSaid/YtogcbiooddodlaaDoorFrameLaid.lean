/- Frames: what is valid; Bytes; chapter 5's first; whether a frame is small (several texts in one). -/
import Derived.Test.YtogcbiooddodlaaDoorFrameAlike
import Derived.Test.YtogcbiooddodlaaDoorFrameBeatsWalk
namespace Go.Proofs.YtogcbiooddodlaaDoor
open Go.RowKit
set_option linter.unusedSimpArgs false


theorem entsE_zero {ms : List Int} {es : List EntL} : ∀ (n j : Nat), entsE ms es j n = 0 → ∀ i, j ≤ i → i < j + n → entAt ms es i = 0 := by
  intro n
  induction n with
  | zero => intro j _ i h1 h2; omega
  | succ n ih =>
    intro j h i h1 h2
    rw [entsE] at h
    split at h
    · rename_i h0
      by_cases hij : i = j
      · rw [hij, h0]
      · exact ih (j + 1) h i (by omega) (by omega)
    · rename_i h0
      exact absurd h h0
/-- What holds of an entry that may be. -/
structure EntV (ms : List Int) (e : EntL) : Prop where
  floor : 0 ≤ e.floor ∧ e.floor < 64
  dir : e.dir = 1 ∨ e.dir = -1
  gen : 1 ≤ e.gen ∧ e.gen ≤ 2147483647
  award : e.award = -1 ∨ e.award ∈ ms
  many : e.bids.length ≤ ms.length
  bids : ∀ b ∈ e.bids, b.1 ∈ ms ∧ 0 ≤ b.2 ∧ b.2 ≤ 1048576
  rise : rises (e.bids.map (·.1)) = true
theorem entE_valid {ms : List Int} {p : Option EntL} {e : EntL} (h : entE ms p e = 0) : EntV ms e ∧ outOfRow p e = false := by
  unfold entE at h
  split at h
  · cases h
  rename_i h1
  split at h
  · cases h
  rename_i h2
  split at h
  · cases h
  rename_i h3
  split at h
  · cases h
  rename_i h4
  split at h
  · rename_i h5
    unfold badCall at h1
    simp only [not_or] at h1
    obtain ⟨a1, a2, a3, a4, a5, a6⟩ := h1
    refine ⟨⟨by omega, ?_, by omega, ?_, by omega, fun b hb => ?_, h5⟩, by simpa using h2⟩
    · by_cases hd : e.dir = 1
      · exact .inl hd
      · exact .inr (Classical.byContradiction fun hc => a3 ⟨hd, hc⟩)
    · by_cases hd : e.award = -1
      · exact .inl hd
      · exact .inr (Classical.byContradiction fun hc => a6 ⟨hd, hc⟩)
    · have h6 : badBid ms b = false := by
        cases hq : badBid ms b with
        | false => rfl
        | true => exact absurd (List.any_eq_true.2 ⟨b, hb, hq⟩) h4
      simp only [badBid, Bool.or_eq_false_iff, Bool.not_eq_false', decide_eq_true_eq, decide_eq_false_iff_not] at h6
      exact ⟨h6.1.1, by omega, by omega⟩
  · cases h
/-- What holds of a token's ring that may be. -/
structure RingV (count founder hop : Int) (ms : List Int) (es : List EntL) : Prop where
  epoch : 1 ≤ count ∧ count ≤ 4294967295 ∧ 0 ≤ founder ∧ founder < 16
  hop : 0 ≤ hop ∧ hop ≤ 1099511627776
  many : 1 ≤ ms.length ∧ ms.length ≤ 16 ∧ es.length ≤ 128
  cars : ∀ n ∈ ms, 0 ≤ n ∧ n < 16
  rise : rises ms = true
  ents : ∀ k e, es[k]? = some e → EntV ms e ∧ outOfRow (if k = 0 then none else es[k - 1]?) e = false
theorem ringE_valid {count founder hop : Int} {ms : List Int} {es : List EntL} (h : ringE count founder hop ms es = 0) : RingV count founder hop ms es := by
  unfold ringE at h
  split at h
  · cases h
  rename_i h1
  split at h
  · cases h
  rename_i h2
  split at h
  · cases h
  rename_i h3
  split at h
  · cases h
  rename_i h4
  simp only [not_or] at h1 h2
  have hv : validE count founder = true := by simpa using h1.1
  simp only [validE, Bool.and_eq_true, decide_eq_true_eq] at hv
  refine ⟨by omega, by omega, by omega, fun n hn => ?_, by simpa using h4, fun k e he => ?_⟩
  · have h6 : ∀ n ∈ ms, isCar n = true := Classical.byContradiction fun hc => h3 ((noCar_iff ms).2 hc)
    have := h6 n hn
    simp only [isCar, Bool.and_eq_true, decide_eq_true_eq] at this
    exact this
  · have hk := (List.getElem?_eq_some_iff.1 he).1
    have h5 := entsE_zero _ _ h k (Nat.zero_le _) (by omega)
    unfold entAt at h5
    rw [he] at h5
    exact entE_valid h5
theorem ringV_ok {count founder hop : Int} {ms : List Int} {es : List EntL} (h : RingV count founder hop ms es) : ringE count founder hop ms es = 0 := by
  unfold ringE
  have hv : validE count founder = true := by
    have := h.epoch
    simp only [validE, Bool.and_eq_true, decide_eq_true_eq]
    omega
  rw [if_neg (by rw [hv]; have := h.hop; simp; omega), if_neg (by have := h.many; omega), if_neg (by
    intro hc
    refine (noCar_iff ms).1 hc fun n hn => ?_
    have := h.cars n hn
    simp only [isCar, Bool.and_eq_true, decide_eq_true_eq]
    exact this), if_neg (by rw [h.rise]; simp)]
  refine entsE_none _ _ fun i _ hi => ?_
  obtain ⟨e, he⟩ : ∃ e, es[i]? = some e := ⟨es[i], List.getElem?_eq_getElem (by omega)⟩
  obtain ⟨hv, ho⟩ := h.ents i e he
  unfold entAt
  rw [he]
  show entE ms _ e = 0
  unfold entE
  rw [if_neg (by
      unfold badCall
      rintro (q | q | q | q | q | q)
      · have := hv.floor; omega
      · have := hv.floor; omega
      · rcases hv.dir with h | h
        · exact q.1 h
        · exact q.2 h
      · have := hv.gen; omega
      · have := hv.gen; omega
      · rcases hv.award with h | h
        · exact q.1 h
        · exact q.2 h), if_neg (by rw [ho]; simp), if_neg (by have := hv.many; omega), if_neg (by
      rw [List.any_eq_true]
      rintro ⟨b, hb, hq⟩
      obtain ⟨b1, b2, b3⟩ := hv.bids b hb
      simp only [badBid, Bool.or_eq_true, Bool.not_eq_true', decide_eq_false_iff_not, decide_eq_true_eq] at hq
      rcases hq with (hq | hq) | hq
      · exact hq b1
      · omega
      · omega), if_pos hv.rise]
/-- A frame that may be: a beat, or a token. -/
theorem frameE_valid {kind fr tt life seen : Int} {out : Bool} {count founder hop : Int} {ms : List Int} {es : List EntL} (h : frameE kind fr tt life seen out count founder hop ms es = 0) :
    (0 ≤ fr ∧ fr < 16) ∧ (0 ≤ tt ∧ tt < 16) ∧ ((kind = 1 ∧ numOk life ∧ numOk seen ∧ zeroRing count founder hop ms.length es.length) ∨ (kind = 2 ∧ life = 0 ∧ seen = 0 ∧ out = false ∧ RingV count founder hop ms es)) := by
  unfold frameE at h
  split at h
  · cases h
  rename_i h1
  split at h
  · cases h
  rename_i h2
  simp only [not_or, Bool.not_eq_false] at h2
  simp only [isCar, Bool.and_eq_true, decide_eq_true_eq] at h2
  refine ⟨h2.1, h2.2, ?_⟩
  split at h
  · rename_i hk
    unfold tokE at h
    split at h
    · cases h
    rename_i h3
    simp only [not_or, Decidable.not_not, Bool.not_eq_true] at h3
    exact .inr ⟨hk, h3.1, h3.2.1, h3.2.2, ringE_valid h⟩
  · rename_i hk
    split at h
    · cases h
    rename_i h3
    simp only [not_or, Decidable.not_not] at h3
    exact .inl ⟨by omega, h3⟩
/-- An entry's numbers. -/
def entNs (e : EntL) : List Int := [e.floor, e.dir, e.gen, e.award, e.bids.length] ++ e.bids.flatMap fun b => [b.1, b.2]
def ringNs (count founder hop : Int) (ms : List Int) (es : List EntL) : List Int := [count, founder, hop, ms.length] ++ ms ++ [(es.length : Int)] ++ es.flatMap entNs
def frameNs (kind fr tt life seen : Int) (out : Bool) (count founder hop : Int) (ms : List Int) (es : List EntL) : List Int :=
  if kind = 1 then [40, -1, fr, tt, life, seen, bit out] else [40, 1, fr, tt] ++ ringNs count founder hop ms es
theorem entNs_in {ms : List Int} {e : EntL} (hc : ∀ n ∈ ms, 0 ≤ n ∧ n < 16) (hl : ms.length ≤ 16) (h : EntV ms e) : ∀ n ∈ entNs e, inI n := by
  intro n hn
  unfold entNs at hn
  have h1 := h.floor
  have h2 := h.gen
  have h3 := h.many
  rcases List.mem_append.1 hn with hn | hn
  · simp only [List.mem_cons, List.not_mem_nil, or_false] at hn
    unfold inI
    rcases hn with rfl | rfl | rfl | rfl | rfl
    · omega
    · rcases h.dir with h | h <;> omega
    · omega
    · rcases h.award with h | h
      · omega
      · have := hc _ h; omega
    · omega
  · obtain ⟨b, hb, hn⟩ := List.mem_flatMap.1 hn
    obtain ⟨b1, b2, b3⟩ := h.bids b hb
    have := hc _ b1
    simp only [List.mem_cons, List.not_mem_nil, or_false] at hn
    unfold inI
    rcases hn with rfl | rfl <;> omega
theorem ringNs_in {count founder hop : Int} {ms : List Int} {es : List EntL} (h : RingV count founder hop ms es) : ∀ n ∈ ringNs count founder hop ms es, inI n := by
  intro n hn
  have h1 := h.epoch
  have h2 := h.hop
  have h3 := h.many
  unfold ringNs at hn
  rcases List.mem_append.1 hn with hn | hn
  · rcases List.mem_append.1 hn with hn | hn
    · rcases List.mem_append.1 hn with hn | hn
      · simp only [List.mem_cons, List.not_mem_nil, or_false] at hn
        unfold inI
        rcases hn with rfl | rfl | rfl | rfl <;> omega
      · have := h.cars n hn
        unfold inI
        omega
    · simp only [List.mem_cons, List.not_mem_nil, or_false] at hn
      subst hn
      unfold inI
      omega
  · obtain ⟨e, he, hn⟩ := List.mem_flatMap.1 hn
    obtain ⟨k, hk⟩ := List.getElem?_of_mem he
    exact entNs_in h.cars h3.2.1 (h.ents k e hk).1 n hn
theorem frameNs_in {kind fr tt life seen : Int} {out : Bool} {count founder hop : Int} {ms : List Int} {es : List EntL} (h : frameE kind fr tt life seen out count founder hop ms es = 0) : ∀ n ∈ frameNs kind fr tt life seen out count founder hop ms es, inI n := by
  obtain ⟨h1, h2, h3⟩ := frameE_valid h
  intro n hn
  unfold frameNs at hn
  rcases h3 with ⟨rfl, h4, h5, _⟩ | ⟨rfl, _, _, _, hr⟩
  · rw [if_pos rfl] at hn
    unfold numOk at h4 h5
    simp only [List.mem_cons, List.not_mem_nil, or_false] at hn
    unfold inI
    rcases hn with rfl | rfl | rfl | rfl | rfl | rfl | rfl
    all_goals first | omega | (unfold bit; cases out <;> simp)
  · rw [if_neg (by decide)] at hn
    rcases List.mem_append.1 hn with hn | hn
    · simp only [List.mem_cons, List.not_mem_nil, or_false] at hn
      unfold inI
      rcases hn with rfl | rfl | rfl | rfl <;> omega
    · exact ringNs_in hr n hn

/-- Bytes that lie in a slice, with room for them. -/
def SlC (w : World) (A : Option Addr) (c : Nat) (xs : List Int) : Prop := Sl w A (xs.map (Value.int .u8)) ∧ xs.length ≤ c
theorem SlC.on {w w' : World} {A : Option Addr} {c : Nat} {xs : List Int} (h : SlC w A c xs) (hb : Below w.heap.size w w') : SlC w' A c xs := ⟨It2 h.1 hb, h.2⟩
def GivesSlC (w : World) (xs : List Int) (e : Ending) (w' : World) : Prop := ∃ A c, e = .returned (.slice A xs.length c) ∧ SlC w' A c xs ∧ Below w.heap.size w w'
def GivesBytesC (w : World) (B : List Int) (e : Ending) (w' : World) : Prop := ∃ A c, e = .returned (.tuple #[.slice A B.length c, .nilIface]) ∧ SlC w' A c B ∧ Below w.heap.size w w'
def PutVRel2 (w : World) (xs ns : List Int) (v i : Value) (wr : World) : Prop :=
  ∃ (k : Nat) (A : Option Addr) (c : Nat), k ≤ ns.length ∧ i = .int .i64 k ∧ v = .slice A (xs ++ cat (ns.take k)).length c ∧ SlC wr A c (xs ++ cat (ns.take k)) ∧ Below w.heap.size w wr
attribute [irreducible] PutVRel2
set_option maxRecDepth 100000 in
set_option maxHeartbeats 1600000 in
theorem putV2_any (A : Option Addr) (c : Nat) (xs : List Int) (B : Option Addr) (d : Nat) (ns : List Int) (w : World) (hs : SlC w A c xs) (hn : Sl w B (ns.map (Value.int .i64))) (hl : xs.length ≤ 500000) (hnl : ns.length ≤ 100) (hin : ∀ n ∈ ns, inI n) :
    Calls Tryd.prog 54 #[.slice A xs.length c, .slice B ns.length d] w (GivesSlC w (xs ++ cat ns)) := by
  have hcl : ∀ k, (cat (ns.take k)).length ≤ 1000 := fun k => by
    have h1 := cat_len (xs := ns.take k) (fun n hn => hin n (List.mem_of_mem_take hn))
    rw [List.length_take] at h1
    omega
  have HC := hid hcl
  clear hcl
  go_enter Tryd.func54, Tryd.ntmps54
  go_wp2_with fail
  go_loopw [0, 9] (fun v i wr => PutVRel2 w xs ns v i wr) (fun _ i _ => ns.length - (intOf i).toNat)
  case atStart => unfold PutVRel2; exact ⟨0, A, c, by omega, rfl, by simp [cat], by simpa [cat] using hs, Below.refl _ _⟩
  case round =>
    unfold PutVRel2 at hrel
    obtain ⟨k, A1, c1, hk, rfl, rfl, hs1, hB⟩ := hrel
    by_cases hlt : k < ns.length
    · obtain ⟨b0, o0, rfl, hbw, hcx⟩ := hn.at (by rw [List.length_map]; omega)
      have hcc : wr.cell? ⟨b0, o0 + k, none⟩ = some (.int .i64 ns[k]) := (hB.cell (p := ⟨b0, o0 + k, none⟩) hbw).trans ((hcx k (by rw [List.length_map]; omega)).trans (by simp))
      have HP := hid (putW_any ns[k] (hin _ (List.getElem_mem hlt)) A1 c1 _ wr hs1.1 (by rw [List.length_append]; have := HC.out k; omega))
      have HS : Hid (xs ++ cat (ns.take (k + 1)) = xs ++ cat (ns.take k) ++ form (zz ns[k])) := by rw [Hid, cat_succ hlt, List.append_assoc]
      have hlt' : (k : Int) < ns.length := by omega
      obtain ⟨X, hX⟩ : ∃ X, xs ++ cat (ns.take k) = X := ⟨_, rfl⟩
      rw [hX] at HP HS ⊢
      generalize ns[k] = x at *
      clear hcx hs1 hX
      go_wp2_with fail
      refine HP.out.mono ?_
      rintro e w3 ⟨v3, rfl, hown, hb3⟩
      rw [← HS.out] at hown
      obtain ⟨A3, c3, rfl, hle3, _, hs3⟩ := Sl.row hown
      have hs3 : SlC w3 A3 c3 (xs ++ cat (ns.take (k + 1))) := ⟨hs3, hle3⟩
      clear hown HP hle3
      have hB3 := hB.trans (hb3.mono hB.size)
      have HF := hid (And.intro hs3 hB3)
      clear hs3 hB3 hb3
      go_wp2_with fail
      go_roundw
      case rel => unfold PutVRel2; exact ⟨k + 1, A3, c3, by omega, by go_num, by rw [List.length_append], HF.out.1, HF.out.2⟩
      case measure => simp [intOf]; omega
    · obtain rfl : ns.length = k := by omega
      rw [List.take_length] at hs1 ⊢
      have HF := hid (And.intro hs1 hB)
      clear hs1 hB
      go_wp2_with fail
      go_ret
      exact ⟨A1, c1, by rw [List.length_append]; rfl, HF.out.1, HF.out.2⟩
theorem cat_append (xs ys : List Int) : cat (xs ++ ys) = cat xs ++ cat ys := by simp [cat]
/-- Numbers more, behind a frame's. -/
theorem putN_any (A : Option Addr) (c : Nat) (P : List Int) (B : Option Addr) (d : Nat) (ns : List Int) (w : World) (hs : SlC w A c (cat P)) (hn : Sl w B (ns.map (Value.int .i64))) (hl : P.length ≤ 20000) (hP : ∀ n ∈ P, inI n) (hnl : ns.length ≤ 100) (hin : ∀ n ∈ ns, inI n) :
    Calls Tryd.prog 54 #[.slice A (cat P).length c, .slice B ns.length d] w (GivesSlC w (cat (P ++ ns))) := by
  have h := putV2_any A c (cat P) B d ns w hs hn (by have := cat_len hP; omega) hnl hin
  rw [← cat_append] at h
  exact h
theorem form_2 : form (zz 1) = [2] := by rw [show zz 1 = 2 from rfl, form_small (by omega)]; rfl
theorem tok_two (f t : Int) : [80, 2] ++ cat [f, t] = cat [40, 1, f, t] := by
  have e : cat [40, 1, f, t] = form (zz 40) ++ (form (zz 1) ++ cat [f, t]) := by simp [cat]
  rw [e, form_40, form_2]
  rfl
set_option maxRecDepth 100000 in
set_option maxHeartbeats 4000000 in
theorem bytesBeat_any {ad : Int → Addr} (fr tt life seen : Int) (out : Bool) (count founder hop : Int) (MA : Option Addr) (mc : Nat) (ms : List Int) (EA : Option Addr) (ec : Nat) (es : List EntL) (w : World) (hE : ErrsV ad w) (hR : RingIs w MA ms EA es) (hV : frameE 1 fr tt life seen out count founder hop ms es = 0) :
    Calls Tryd.prog 33 #[.agg (frameV 1 fr tt life seen out count founder hop MA ms.length mc EA es.length ec)] w (GivesBytesC w (cat (frameNs 1 fr tt life seen out count founder hop ms es))) := by
  have hin := frameNs_in hV
  have hb1 : Below w.heap.size w (w.alloc (.cells (frameV 1 fr tt life seen out count founder hop MA ms.length mc EA es.length ec) 64)) := (Below.refl _ _).alloc (Nat.le_refl _) _
  have hx1 : Blk (w.alloc (.cells (frameV 1 fr tt life seen out count founder hop MA ms.length mc EA es.length ec) 64)) w.heap.size (frameL 1 fr tt life seen out count founder hop MA ms.length mc EA es.length ec) 64 := Blk.new w _ _
  have hv := validF_any (ad := ad) 1 fr tt life seen out count founder hop MA mc ms EA ec es _ (hE.below hb1) (hR.on hb1)
  rw [hV, GivesErrB_zero] at hv
  have HIN := hid hin
  have HV := hid (frameE_valid hV)
  clear hE hV hR hin
  go_enter Tryd.func33, Tryd.ntmps33
  go_wp2_with fail
  refine hv.mono ?_
  rintro e w2 ⟨rfl, hb2⟩
  have hx2 := (Eff.of_below (S := fun _ => False) hb2).blk hx1 (fun h => h)
  have hB2 := hb1.trans (hb2.mono hb1.size)
  have k0 : w2.cell? ⟨w.heap.size, 0, none⟩ = some (.int .i64 1) := hx2.cell 0
  have k1 : w2.cell? ⟨w.heap.size, 1, none⟩ = some (.int .i64 fr) := hx2.cell 1
  have k2 : w2.cell? ⟨w.heap.size, 2, none⟩ = some (.int .i64 tt) := hx2.cell 2
  have hlx := hx2.lt
  clear hv hx1 hb2 hb1
  go_wp2_with fail
  have hbA : Below w2.heap.size w2 (w2.alloc (.cells #[.int .u8 80, .int .u8 1] 5)) := (Below.refl _ _).alloc (Nat.le_refl _) _
  have hbB : Below (w2.alloc (.cells #[.int .u8 80, .int .u8 1] 5)).heap.size (w2.alloc (.cells #[.int .u8 80, .int .u8 1] 5)) ((w2.alloc (.cells #[.int .u8 80, .int .u8 1] 5)).alloc (.cells #[.int .i64 fr, .int .i64 tt] 2)) := (Below.refl _ _).alloc (Nat.le_refl _) _
  have hsA : Sl ((w2.alloc (.cells #[.int .u8 80, .int .u8 1] 5)).alloc (.cells #[.int .i64 fr, .int .i64 tt] 2)) (some ⟨w2.heap.size, 0, none⟩) ([80, 1].map (Value.int .u8)) := It2 (sl_lit w2 [80, 1] 5) hbB
  have hnB := sl_ints (w2.alloc (.cells #[.int .u8 80, .int .u8 1] 5)) [fr, tt] 2
  rw [show (w2.alloc (.cells #[.int .u8 80, .int .u8 1] 5)).heap.size = w2.heap.size + 1 from by simp] at hnB
  have hB3 := hB2.trans ((hbA.trans (hbB.mono hbA.size)).mono hB2.size)
  have hx3 := (Eff.of_below (S := fun _ => False) (hbA.trans (hbB.mono hbA.size))).blk hx2 (fun h => h)
  have hp := putV2_any (some ⟨w2.heap.size, 0, none⟩) 2 [80, 1] (some ⟨w2.heap.size + 1, 0, none⟩) 2 [fr, tt] _ ⟨hsA, by simp⟩ hnB (by simp) (by simp) (by
    intro n hn
    exact HIN.out n (by
      simp only [List.mem_cons, List.not_mem_nil, or_false] at hn
      unfold frameNs
      rw [if_pos rfl]
      rcases hn with rfl | rfl <;> simp))
  rw [beat_two] at hp
  clear hbA hbB hsA hnB hx2 hB2 k0 k1 k2
  refine hp.mono ?_
  rintro e w5 ⟨A5, c5, rfl, hs5, hb5⟩
  have hx5 := (Eff.of_below (S := fun _ => False) hb5).blk hx3 (fun h => h)
  have hB5 := hB3.trans (hb5.mono hB3.size)
  have k0 : w5.cell? ⟨w.heap.size, 0, none⟩ = some (.int .i64 1) := hx5.cell 0
  have k3 : w5.cell? ⟨w.heap.size, 3, none⟩ = some (.int .i64 life) := hx5.cell 3
  have k4 : w5.cell? ⟨w.heap.size, 4, none⟩ = some (.int .i64 seen) := hx5.cell 4
  have k5 : w5.cell? ⟨w.heap.size, 5, none⟩ = some (.bool out) := hx5.cell 5
  clear hp hx3 hb5 hB3 hx5
  have hall : cat ([40, -1, fr, tt] ++ [life, seen, bit out]) = cat (frameNs 1 fr tt life seen out count founder hop ms es) := by rw [frameNs, if_pos rfl]; rfl
  have HA := hid hall
  clear hall
  have hbC := (Below.refl w5.heap.size w5).alloc (Nat.le_refl _) (.cells #[.int .i64 life, .int .i64 seen, .int .i64 (bit out)] 2)
  have hp2 : ∀ d, _ := fun d => putN_any A5 c5 [40, -1, fr, tt] (some ⟨w5.heap.size, 0, none⟩) d [life, seen, bit out] _ (SlC.on hs5 hbC) (sl_ints w5 [life, seen, bit out] 2) (by simp) (fun n hn => HIN.out n (by
      simp only [List.mem_cons, List.not_mem_nil, or_false] at hn
      unfold frameNs
      rw [if_pos rfl]
      rcases hn with rfl | rfl | rfl | rfl <;> simp)) (by simp) (fun n hn => HIN.out n (by
      simp only [List.mem_cons, List.not_mem_nil, or_false] at hn
      unfold frameNs
      rw [if_pos rfl]
      rcases hn with rfl | rfl | rfl <;> simp))
  rw [HA.out] at hp2
  have hB6 := hB5.trans (hbC.mono hB5.size)
  generalize cat [40, -1, fr, tt] = X at *
  clear hs5 hbC
  cases out
  all_goals
    go_wp2_with fail
    refine (hp2 3).mono ?_
    rintro e w7 ⟨A7, c7, rfl, hs7, hb7⟩
    have hB7 := hB6.trans (hb7.mono hB6.size)
    go_wp2_with fail
    go_ret2
    exact ⟨A7, c7, rfl, hs7, hB7⟩

theorem flat_len_le {α : Type} {f : α → List Int} {c : Nat} : ∀ {l : List α}, (∀ x ∈ l, (f x).length ≤ c) → (l.flatMap f).length ≤ l.length * c
  | [], _ => by simp
  | x :: l, h => by
    have ih := flat_len_le (l := l) (fun y hy => h y (by simp [hy]))
    have h0 := h x (by simp)
    rw [List.flatMap_cons, List.length_append, List.length_cons, Nat.add_mul]
    omega
theorem entNs_len (e : EntL) : (entNs e).length = 5 + 2 * e.bids.length := by
  have : ∀ l : List (Int × Int), (l.flatMap fun b => [b.1, b.2]).length = 2 * l.length := by
    intro l
    induction l with
    | nil => rfl
    | cons x l ih => rw [List.flatMap_cons, List.length_append, ih]; simp; omega
  rw [entNs, List.length_append, this]
  rfl
theorem ringNs_len {count founder hop : Int} {ms : List Int} {es : List EntL} (h : RingV count founder hop ms es) : (ringNs count founder hop ms es).length ≤ 5000 := by
  have h1 := flat_len_le (f := entNs) (c := 37) (l := es) (fun e he => by
    obtain ⟨k, hk⟩ := List.getElem?_of_mem he
    have := (h.ents k e hk).1.many
    have := h.many
    rw [entNs_len]
    omega)
  have := h.many
  simp only [ringNs, List.length_append, List.length_cons, List.length_nil]
  omega
/-- The first numbers of these, and some behind them. -/
theorem putP_any {All : List Int} (A : Option Addr) (c : Nat) (P : List Int) (B : Option Addr) (d : Nat) (ns R : List Int) (w : World) (hs : SlC w A c (cat P)) (hn : Sl w B (ns.map (Value.int .i64))) (hA : P ++ ns ++ R = All) (hin : ∀ n ∈ All, inI n) (hl : All.length ≤ 20000) (hnl : ns.length ≤ 100) :
    Calls Tryd.prog 54 #[.slice A (cat P).length c, .slice B ns.length d] w (GivesSlC w (cat (P ++ ns))) := by
  subst hA
  exact putN_any A c P B d ns w hs hn (by rw [List.length_append, List.length_append] at hl; omega) (fun n hm => hin n (by simp [hm])) hnl (fun n hm => hin n (by simp [hm]))
def PutRelF (W : World) (P : Nat → List Int) (m : Nat) (v i : Value) (wr : World) : Prop :=
  ∃ (k : Nat) (A : Option Addr) (c : Nat), k ≤ m ∧ i = .int .i64 k ∧ v = .slice A (cat (P k)).length c ∧ SlC wr A c (cat (P k)) ∧ Below W.heap.size W wr
attribute [irreducible] PutRelF
def pairs (bs : List (Int × Int)) : List Int := bs.flatMap fun b => [b.1, b.2]
theorem pairs_succ {bs : List (Int × Int)} {k : Nat} {b : Int × Int} (h : bs[k]? = some b) : pairs (bs.take (k + 1)) = pairs (bs.take k) ++ [b.1, b.2] := by
  rw [List.take_add_one, h]
  simp [pairs]
theorem ents_succ {es : List EntL} {k : Nat} {e : EntL} (h : es[k]? = some e) : (es.take (k + 1)).flatMap entNs = (es.take k).flatMap entNs ++ ([e.floor, e.dir, e.gen, e.award, e.bids.length] ++ pairs e.bids) := by
  rw [List.take_add_one, h]
  simp [entNs, pairs]
theorem take_split {α : Type} (l : List α) (k : Nat) (x : α) (h : l[k]? = some x) : l = l.take k ++ x :: l.drop (k + 1) := by
  obtain ⟨hk, rfl⟩ := List.getElem?_eq_some_iff.1 h
  rw [← List.drop_eq_getElem_cons hk, List.take_append_drop]
set_option maxRecDepth 100000 in
set_option maxHeartbeats 8000000 in
theorem bytesTok_any {ad : Int → Addr} (fr tt life seen : Int) (out : Bool) (count founder hop : Int) (MA : Option Addr) (mc : Nat) (ms : List Int) (EA : Option Addr) (ec : Nat) (es : List EntL) (w : World) (hE : ErrsV ad w) (hR : RingIs w MA ms EA es) (hV : frameE 2 fr tt life seen out count founder hop ms es = 0) :
    Calls Tryd.prog 33 #[.agg (frameV 2 fr tt life seen out count founder hop MA ms.length mc EA es.length ec)] w (GivesBytesC w (cat (frameNs 2 fr tt life seen out count founder hop ms es))) := by
  have hin := frameNs_in hV
  have hb1 : Below w.heap.size w (w.alloc (.cells (frameV 2 fr tt life seen out count founder hop MA ms.length mc EA es.length ec) 64)) := (Below.refl _ _).alloc (Nat.le_refl _) _
  have hx1 : Blk (w.alloc (.cells (frameV 2 fr tt life seen out count founder hop MA ms.length mc EA es.length ec) 64)) w.heap.size (frameL 2 fr tt life seen out count founder hop MA ms.length mc EA es.length ec) 64 := Blk.new w _ _
  have hv := validF_any (ad := ad) 2 fr tt life seen out count founder hop MA mc ms EA ec es _ (hE.below hb1) (hR.on hb1)
  rw [hV, GivesErrB_zero] at hv
  have hrv : RingV count founder hop ms es := by
    obtain ⟨_, _, h | h⟩ := frameE_valid hV
    · exact absurd h.1 (by decide)
    · exact h.2.2.2.2
  have hall : frameNs 2 fr tt life seen out count founder hop ms es = [40, 1, fr, tt] ++ ringNs count founder hop ms es := by rw [frameNs, if_neg (by decide)]
  have hlen : (frameNs 2 fr tt life seen out count founder hop ms es).length ≤ 20000 := by
    rw [hall, List.length_append]
    have := ringNs_len hrv
    simp only [List.length_cons, List.length_nil]
    omega
  have HA := hid (And.intro hall (And.intro hin (And.intro hlen (And.intro hR hE))))
  have hmn := hrv.many
  clear hE hV hR hin hall hlen hrv
  generalize frameNs 2 fr tt life seen out count founder hop ms es = All at *
  go_enter Tryd.func33, Tryd.ntmps33
  go_wp2_with fail
  refine hv.mono ?_
  rintro e w2 ⟨rfl, hb2⟩
  have hx2 := (Eff.of_below (S := fun _ => False) hb2).blk hx1 (fun h => h)
  have hB2 := hb1.trans (hb2.mono hb1.size)
  have k0 : w2.cell? ⟨w.heap.size, 0, none⟩ = some (.int .i64 2) := hx2.cell 0
  have k1 : w2.cell? ⟨w.heap.size, 1, none⟩ = some (.int .i64 fr) := hx2.cell 1
  have k2 : w2.cell? ⟨w.heap.size, 2, none⟩ = some (.int .i64 tt) := hx2.cell 2
  have hlx := hx2.lt
  clear hv hx1 hb2 hb1
  go_wp2_with fail
  have hbA : Below w2.heap.size w2 (w2.alloc (.cells #[.int .u8 80, .int .u8 2] 5)) := (Below.refl _ _).alloc (Nat.le_refl _) _
  have hbB : Below (w2.alloc (.cells #[.int .u8 80, .int .u8 2] 5)).heap.size (w2.alloc (.cells #[.int .u8 80, .int .u8 2] 5)) ((w2.alloc (.cells #[.int .u8 80, .int .u8 2] 5)).alloc (.cells #[.int .i64 fr, .int .i64 tt] 2)) := (Below.refl _ _).alloc (Nat.le_refl _) _
  have hsA : Sl ((w2.alloc (.cells #[.int .u8 80, .int .u8 2] 5)).alloc (.cells #[.int .i64 fr, .int .i64 tt] 2)) (some ⟨w2.heap.size, 0, none⟩) ([80, 2].map (Value.int .u8)) := It2 (sl_lit w2 [80, 2] 5) hbB
  have hnB := sl_ints (w2.alloc (.cells #[.int .u8 80, .int .u8 2] 5)) [fr, tt] 2
  rw [show (w2.alloc (.cells #[.int .u8 80, .int .u8 2] 5)).heap.size = w2.heap.size + 1 from by simp] at hnB
  have hB3 := hB2.trans ((hbA.trans (hbB.mono hbA.size)).mono hB2.size)
  have hx3 := (Eff.of_below (S := fun _ => False) (hbA.trans (hbB.mono hbA.size))).blk hx2 (fun h => h)
  have hp := putV2_any (some ⟨w2.heap.size, 0, none⟩) 2 [80, 2] (some ⟨w2.heap.size + 1, 0, none⟩) 2 [fr, tt] _ ⟨hsA, by simp⟩ hnB (by simp) (by simp) (by
    intro n hn
    exact HA.out.2.1 n (by
      rw [HA.out.1]
      simp only [List.mem_cons, List.not_mem_nil, or_false] at hn
      rcases hn with rfl | rfl <;> simp))
  rw [tok_two] at hp
  clear hbA hbB hsA hnB hx2 hB2 k0 k1 k2
  refine hp.mono ?_
  rintro e w5 ⟨A5, c5, rfl, hs5, hb5⟩
  have hx5 := (Eff.of_below (S := fun _ => False) hb5).blk hx3 (fun h => h)
  have hB5 := hB3.trans (hb5.mono hB3.size)
  have k0 : w5.cell? ⟨w.heap.size, 0, none⟩ = some (.int .i64 2) := hx5.cell 0
  have k6 : w5.cell? ⟨w.heap.size, 6, none⟩ = some (.int .i64 count) := hx5.cell 6
  have k7 : w5.cell? ⟨w.heap.size, 7, none⟩ = some (.int .i64 founder) := hx5.cell 7
  have k8 : w5.cell? ⟨w.heap.size, 8, none⟩ = some (.int .i64 hop) := hx5.cell 8
  have k9 : w5.cell? ⟨w.heap.size, 9, none⟩ = some (.slice MA ms.length mc) := hx5.cell 9
  have k10 : w5.cell? ⟨w.heap.size, 10, none⟩ = some (.slice EA es.length ec) := hx5.cell 10
  have hl5 := hx5.lt
  clear hp hx3 hb5 hB3
  have hb6 : Below w5.heap.size w5 (w5.alloc (.cells (ringV count founder hop MA ms.length mc EA es.length ec) 53)) := (Below.refl _ _).alloc (Nat.le_refl _) _
  have hr6 : Blk (w5.alloc (.cells (ringV count founder hop MA ms.length mc EA es.length ec) 53)) w5.heap.size (ringL count founder hop MA ms.length mc EA es.length ec) 53 := Blk.new w5 _ _
  have hs6 := SlC.on hs5 hb6
  have hB6 := hB5.trans (hb6.mono hB5.size)
  go_upto_region 11 with (fail)
  generalize w5.alloc (.cells (ringV count founder hop MA ms.length mc EA es.length ec) 53) = w6 at *
  generalize w5.heap.size = rb at *
  clear hb6 hs5 hB5 hx5 k0 k6 k7 k8 k9 k10 hl5 hlx
  have r0 : w6.cell? ⟨rb, 0, none⟩ = some (.int .i64 count) := hr6.cell 0
  have r1 : w6.cell? ⟨rb, 1, none⟩ = some (.int .i64 founder) := hr6.cell 1
  have r2 : w6.cell? ⟨rb, 2, none⟩ = some (.int .i64 hop) := hr6.cell 2
  have r3 : w6.cell? ⟨rb, 3, none⟩ = some (.slice MA ms.length mc) := hr6.cell 3
  have hb7 := (Below.refl w6.heap.size w6).alloc (Nat.le_refl _) (.cells #[.int .i64 count, .int .i64 founder, .int .i64 hop, .int .i64 ms.length] 2)
  have hp := putP_any (All := All) A5 c5 [40, 1, fr, tt] (some ⟨w6.heap.size, 0, none⟩) 4 [count, founder, hop, ms.length] (ms ++ [(es.length : Int)] ++ es.flatMap entNs) _ (SlC.on hs6 hb7) (sl_ints w6 [count, founder, hop, ms.length] 2) (by rw [HA.out.1]; simp [ringNs]) HA.out.2.1 HA.out.2.2.1 (by simp)
  have hB7 := hB6.trans (hb7.mono hB6.size)
  have hr7 := (Eff.of_below (S := fun _ => False) hb7).blk hr6 (fun h => h)
  generalize hP0 : ([40, 1, fr, tt] : List Int) = P0 at *
  generalize hP1 : P0 ++ [count, founder, hop, (ms.length : Int)] = P1 at *
  clear hs6 hb7 hB6 hr6
  go_wp2_with fail
  refine hp.mono ?_
  rintro e w8 ⟨A8, c8, rfl, hs8, hb8⟩
  have hr8 := (Eff.of_below (S := fun _ => False) hb8).blk hr7 (fun h => h)
  have hB8 := hB7.trans (hb8.mono hB7.size)
  clear hp r0 r1 r2 r3 hb8 hr7 hB7
  have r3 : w8.cell? ⟨rb, 3, none⟩ = some (.slice MA ms.length mc) := hr8.cell 3
  have HP := hid (And.intro hP0 hP1)
  clear hP0 hP1
  go_wp2_with fail
  clear r3
  go_loopw [5, 61] (fun v i wr => PutRelF w8 (fun k => P1 ++ ms.take k) ms.length v i wr) (fun _ i _ => ms.length - (intOf i).toNat)
  case atStart => unfold PutRelF; exact ⟨0, A8, c8, Nat.zero_le _, rfl, by simp, by simpa using hs8, Below.refl _ _⟩
  case round =>
  unfold PutRelF at hrel
  obtain ⟨k, A1, c1, hk, rfl, rfl, hs1, hb9⟩ := hrel
  by_cases hlt : k < ms.length
  case pos =>
    obtain ⟨b0, o0, hb0, hbw, hcx⟩ := HA.out.2.2.2.1.mem.at (by rw [List.length_map]; omega)
    obtain rfl : MA = _ := hb0
    obtain ⟨x, hx⟩ : ∃ x, ms[k]? = some x := ⟨ms[k], List.getElem?_eq_getElem hlt⟩
    have hB9 := hB8.trans (hb9.mono hB8.size)
    have d0 : wr.cell? ⟨b0, o0 + k, none⟩ = some (.int .i64 x) := (hB9.cell (p := ⟨b0, o0 + k, none⟩) hbw).trans ((hcx k (by rw [List.length_map]; omega)).trans (by rw [List.getElem?_map, hx]; rfl))
    have hbC := (Below.refl wr.heap.size wr).alloc (Nat.le_refl _) (.cells #[.int .i64 x] 2)
    have hq : P1 ++ ms.take k ++ [x] ++ (ms.drop (k + 1) ++ [(es.length : Int)] ++ es.flatMap entNs) = All := by
      have h1 : P1 ++ ms.take k ++ [x] ++ (ms.drop (k + 1) ++ [(es.length : Int)] ++ es.flatMap entNs) = P1 ++ (ms.take k ++ x :: ms.drop (k + 1)) ++ [(es.length : Int)] ++ es.flatMap entNs := by simp [List.append_assoc]
      rw [h1, ← take_split ms k x hx, HA.out.1, ← HP.out.2, ← HP.out.1]
      simp [ringNs]
    have hp := putP_any (All := All) A1 c1 (P1 ++ ms.take k) (some ⟨wr.heap.size, 0, none⟩) 1 [x] _ _ (SlC.on hs1 hbC) (sl_ints wr [x] 2) hq HA.out.2.1 HA.out.2.2.1 (by simp)
    have hnx : P1 ++ ms.take k ++ [x] = P1 ++ ms.take (k + 1) := by rw [List.take_add_one, hx]; simp
    rw [hnx] at hp
    have hlt' : (k : Int) < ms.length := by omega
    have HN := hid (And.intro hp (hb9.trans (hbC.mono hb9.size)))
    clear hq hp hnx hbC hs1 hcx hb9 hB9 hx
    dsimp only
    generalize P1 ++ ms.take k = X at *
    obtain ⟨Y, hY⟩ : ∃ Y, P1 ++ ms.take (k + 1) = Y := ⟨_, rfl⟩
    rw [hY] at HN
    have HY := hid hY
    clear hY
    go_wp2_with fail
    refine HN.out.1.mono ?_
    rintro e w9 ⟨A9, c9, rfl, hs9, hb10⟩
    have HF := hid (And.intro hs9 (HN.out.2.trans (hb10.mono HN.out.2.size)))
    clear hs9 hb10 HN
    go_wp2_with fail
    go_roundw
    case rel =>
      unfold PutRelF
      refine ⟨k + 1, A9, c9, by omega, by go_num, ?_, ?_, HF.out.2⟩
      · show _ = Value.slice A9 (cat (P1 ++ ms.take (k + 1))).length c9
        rw [HY.out]
      · show SlC _ _ _ (cat (P1 ++ ms.take (k + 1)))
        rw [HY.out]
        exact HF.out.1
    case measure => simp [intOf]; omega
  case neg =>
  obtain rfl : ms.length = k := by omega
  dsimp only at hs1 ⊢
  rw [List.take_length] at hs1 ⊢
  have hr9 := (Eff.of_below (S := fun _ => False) hb9).blk hr8 (fun h => h)
  have hB9 := hB8.trans (hb9.mono hB8.size)
  have r4 : wr.cell? ⟨rb, 4, none⟩ = some (.slice EA es.length ec) := hr9.cell 4
  have hbC := (Below.refl wr.heap.size wr).alloc (Nat.le_refl _) (.cells #[.int .i64 es.length] 2)
  have hq : P1 ++ ms ++ [(es.length : Int)] ++ es.flatMap entNs = All := by
    rw [HA.out.1, ← HP.out.2, ← HP.out.1]
    simp [ringNs]
  have hp := putP_any (All := All) A1 c1 (P1 ++ ms) (some ⟨wr.heap.size, 0, none⟩) 1 [(es.length : Int)] _ _ (SlC.on hs1 hbC) (sl_ints wr [(es.length : Int)] 2) hq HA.out.2.1 HA.out.2.2.1 (by simp)
  have hB10 := hB9.trans (hbC.mono hB9.size)
  have hr10 := (Eff.of_below (S := fun _ => False) hbC).blk hr9 (fun h => h)
  generalize hP3 : P1 ++ ms ++ [(es.length : Int)] = P3 at *
  generalize P1 ++ ms = X at *
  have hlr9 := hr9.lt
  clear hs1 hbC hB9 hr9 hb9 hr8 hB8 hs8
  go_wp2_with fail
  refine hp.mono ?_
  rintro e w11 ⟨A11, c11, rfl, hs11, hb11⟩
  have hr11 := (Eff.of_below (S := fun _ => False) hb11).blk hr10 (fun h => h)
  have hB11 := hB10.trans (hb11.mono hB10.size)
  have r4 : w11.cell? ⟨rb, 4, none⟩ = some (.slice EA es.length ec) := hr11.cell 4
  have HQ := hid hq
  clear hp hb11 hr10 hB10 hP3 hq hlr9
  go_wp2_with fail
  clear r4
  go_loopw [5, 79] (fun v i wr => PutRelF w11 (fun k => P3 ++ (es.take k).flatMap entNs) es.length v i wr) (fun _ i _ => es.length - (intOf i).toNat)
  case atStart => unfold PutRelF; exact ⟨0, A11, c11, Nat.zero_le _, rfl, by simp, by simpa using hs11, Below.refl _ _⟩
  case round =>
  unfold PutRelF at hrel
  obtain ⟨k, A1, c1, hk, rfl, rfl, hs1, hb9⟩ := hrel
  by_cases hlt : k < es.length
  case neg =>
    obtain rfl : es.length = k := by omega
    dsimp only at hs1 ⊢
    rw [List.take_length, HQ.out] at hs1 ⊢
    have hB12 := hB11.trans (hb9.mono hB11.size)
    have HF := hid (And.intro hs1 hB12)
    clear hs1 hB12 hb9
    go_wp2_with fail
    go_ret2
    exact ⟨A1, c1, rfl, HF.out.1, HF.out.2⟩
  case pos =>
  obtain ⟨b0, o0, hb0, hbw, hcx⟩ := HA.out.2.2.2.1.ent.at (by rw [flat_length EntL.len]; omega)
  obtain rfl : EA = _ := hb0
  obtain ⟨e, he⟩ : ∃ e, es[k]? = some e := ⟨es[k], List.getElem?_eq_getElem hlt⟩
  obtain ⟨fl, di, ge, aw, bs, bA, bc⟩ := e
  have hem := List.mem_of_getElem? he
  have hB12 := hB11.trans (hb9.mono hB11.size)
  have d0 : wr.cell? ⟨b0, o0 + k * 5, none⟩ = some (.int .i64 fl) := (hB12.cell (p := ⟨b0, o0 + k * 5, none⟩) hbw).trans (ent_cell hcx he (j := 0) (by omega))
  have d1 : wr.cell? ⟨b0, o0 + k * 5 + 1, none⟩ = some (.int .i64 di) := (hB12.cell (p := ⟨b0, o0 + k * 5 + 1, none⟩) hbw).trans (ent_cell hcx he (j := 1) (by omega))
  have d2 : wr.cell? ⟨b0, o0 + k * 5 + 2, none⟩ = some (.int .i64 ge) := (hB12.cell (p := ⟨b0, o0 + k * 5 + 2, none⟩) hbw).trans (ent_cell hcx he (j := 2) (by omega))
  have d3 : wr.cell? ⟨b0, o0 + k * 5 + 3, none⟩ = some (.slice bA bs.length bc) := (hB12.cell (p := ⟨b0, o0 + k * 5 + 3, none⟩) hbw).trans (ent_cell hcx he (j := 3) (by omega))
  have d4 : wr.cell? ⟨b0, o0 + k * 5 + 4, none⟩ = some (.int .i64 aw) := (hB12.cell (p := ⟨b0, o0 + k * 5 + 4, none⟩) hbw).trans (ent_cell hcx he (j := 4) (by omega))
  have hbE := (Below.refl wr.heap.size wr).alloc (Nat.le_refl _) (.cells #[.int .i64 fl, .int .i64 di, .int .i64 ge, .slice bA bs.length bc, .int .i64 aw] 62)
  have hxE : Blk (wr.alloc (.cells #[.int .i64 fl, .int .i64 di, .int .i64 ge, .slice bA bs.length bc, .int .i64 aw] 62)) wr.heap.size [.int .i64 fl, .int .i64 di, .int .i64 ge, .slice bA bs.length bc, .int .i64 aw] 62 := Blk.new wr _ _
  have hsE := SlC.on hs1 hbE
  have hki : (k : Int) < es.length := by omega
  have hb13 := hb9.trans (hbE.mono hb9.size)
  have HR0 := hid (And.intro he (And.intro hem hB12))
  obtain ⟨eb, heb⟩ : ∃ eb, eb = wr.heap.size := ⟨_, rfl⟩
  dsimp only
  go_upto_region 21 with (fail)
  rw [← heb] at hxE ⊢
  clear heb he hem hcx hB12 hbE hs1 hb9 d0 d1 d2 d3 d4
  generalize wr.alloc (.cells #[.int .i64 fl, .int .i64 di, .int .i64 ge, .slice bA bs.length bc, .int .i64 aw] 62) = w13 at *
  have hes : es.flatMap entNs = (es.take k).flatMap entNs ++ (entNs ⟨fl, di, ge, aw, bs, bA, bc⟩ ++ (es.drop (k + 1)).flatMap entNs) := (congrArg (fun l => l.flatMap entNs) (take_split es k _ HR0.out.1)).trans (by rw [List.flatMap_append, List.flatMap_cons])
  have hq5 : P3 ++ (es.take k).flatMap entNs ++ [fl, di, ge, aw, (bs.length : Int)] ++ (pairs bs ++ (es.drop (k + 1)).flatMap entNs) = All := by
    rw [← HQ.out, hes]
    simp [entNs, pairs]
  have hnx : P3 ++ (es.take (k + 1)).flatMap entNs = P3 ++ (es.take k).flatMap entNs ++ [fl, di, ge, aw, (bs.length : Int)] ++ pairs bs := by
    rw [ents_succ HR0.out.1]
    simp
  have hbC := (Below.refl w13.heap.size w13).alloc (Nat.le_refl _) (.cells #[.int .i64 fl, .int .i64 di, .int .i64 ge, .int .i64 aw, .int .i64 bs.length] 2)
  have hp := putP_any (All := All) A1 c1 (P3 ++ (es.take k).flatMap entNs) (some ⟨w13.heap.size, 0, none⟩) 5 [fl, di, ge, aw, (bs.length : Int)] _ _ (SlC.on hsE hbC) (sl_ints w13 [fl, di, ge, aw, (bs.length : Int)] 2) hq5 HA.out.2.1 HA.out.2.2.1 (by simp)
  have hb14 := hb13.trans (hbC.mono hb13.size)
  have hx14 := (Eff.of_below (S := fun _ => False) hbC).blk hxE (fun h => h)
  obtain ⟨Y, hY⟩ : ∃ Y, P3 ++ (es.take (k + 1)).flatMap entNs = Y := ⟨_, rfl⟩
  have HY := hid hY
  rw [hY] at hnx
  generalize P3 ++ (es.take k).flatMap entNs = X at *
  generalize hP5 : X ++ [fl, di, ge, aw, (bs.length : Int)] = P5 at *
  have HN := hid (And.intro hnx hq5)
  have g0 : w13.cell? ⟨eb, 0, none⟩ = some (.int .i64 fl) := hxE.cell 0
  have g1 : w13.cell? ⟨eb, 1, none⟩ = some (.int .i64 di) := hxE.cell 1
  have g2 : w13.cell? ⟨eb, 2, none⟩ = some (.int .i64 ge) := hxE.cell 2
  have g3 : w13.cell? ⟨eb, 3, none⟩ = some (.slice bA bs.length bc) := hxE.cell 3
  have g4 : w13.cell? ⟨eb, 4, none⟩ = some (.int .i64 aw) := hxE.cell 4
  clear hY hes hnx hq5 hP5 hsE hbC hb13 hxE
  go_wp2_with fail
  refine hp.mono ?_
  rintro e' w15 ⟨A15, c15, rfl, hs15, hb15⟩
  have hx15 := (Eff.of_below (S := fun _ => False) hb15).blk hx14 (fun h => h)
  have hb16 := hb14.trans (hb15.mono hb14.size)
  have HB16 := hid hb16
  clear g0 g1 g2 g3 g4 hx14 hb14 hp hb15 hb16
  have g3 : w15.cell? ⟨eb, 3, none⟩ = some (.slice bA bs.length bc) := hx15.cell 3
  have hbl : bs.length ≤ 9223372036854775807 := HA.out.2.2.2.1.lens.2.2 _ HR0.out.2.1
  go_wp2_with fail
  clear g3 hx15
  go_loopw [5, 105] (fun v i wr => PutRelF w15 (fun j => P5 ++ pairs (bs.take j)) bs.length v i wr) (fun _ i _ => bs.length - (intOf i).toNat)
  case atStart => unfold PutRelF; exact ⟨0, A15, c15, Nat.zero_le _, rfl, by simp [pairs], by simpa [pairs] using hs15, Below.refl _ _⟩
  case round =>
  unfold PutRelF at hrel
  obtain ⟨j, A2, c2, hj, rfl, rfl, hs2, hb17⟩ := hrel
  by_cases hjl : j < bs.length
  case neg =>
    obtain rfl : bs.length = j := by omega
    dsimp only at hs2 ⊢
    rw [List.take_length, ← HN.out.1] at hs2 ⊢
    have HF := hid (And.intro hs2 (HB16.out.trans (hb17.mono HB16.out.size)))
    clear hs2 hb17
    go_wp2_with fail
    go_roundw
    case rel =>
      unfold PutRelF
      refine ⟨k + 1, A2, c2, by omega, by go_num, ?_, ?_, HF.out.2⟩
      · show _ = Value.slice A2 (cat (P3 ++ (es.take (k + 1)).flatMap entNs)).length c2
        rw [HY.out]
      · show SlC _ _ _ (cat (P3 ++ (es.take (k + 1)).flatMap entNs))
        rw [HY.out]
        exact HF.out.1
    case measure => simp [intOf]; omega
  case pos =>
  have hbidW : Sl w bA (bs.flatMap bidC) := HA.out.2.2.2.1.bid _ HR0.out.2.1
  obtain ⟨b2, o2, hb2, hbw2, hcx2⟩ := hbidW.at (by rw [flat_length bidC_len]; omega)
  obtain rfl : bA = _ := hb2
  obtain ⟨b, hb⟩ : ∃ b, bs[j]? = some b := ⟨bs[j], List.getElem?_eq_getElem hjl⟩
  have hB18 : Below w.heap.size w wr := (hB11.trans (HB16.out.mono hB11.size)).trans (hb17.mono (hB11.trans (HB16.out.mono hB11.size)).size)
  have d0 : wr.cell? ⟨b2, o2 + j * 2, none⟩ = some (.int .i64 b.1) := (hB18.cell (p := ⟨b2, o2 + j * 2, none⟩) hbw2).trans (bid_cell hcx2 hb (j := 0) (by omega))
  have d1 : wr.cell? ⟨b2, o2 + j * 2 + 1, none⟩ = some (.int .i64 b.2) := (hB18.cell (p := ⟨b2, o2 + j * 2 + 1, none⟩) hbw2).trans (bid_cell hcx2 hb (j := 1) (by omega))
  have hbE := (Below.refl wr.heap.size wr).alloc (Nat.le_refl _) (.cells #[.int .i64 b.1, .int .i64 b.2] 59)
  have hbC := (Below.refl (wr.alloc (.cells #[.int .i64 b.1, .int .i64 b.2] 59)).heap.size (wr.alloc (.cells #[.int .i64 b.1, .int .i64 b.2] 59))).alloc (Nat.le_refl _) (.cells #[.int .i64 b.1, .int .i64 b.2] 2)
  have hbs : bs = bs.take j ++ b :: bs.drop (j + 1) := take_split bs j b hb
  have hpr : pairs bs = pairs (bs.take j) ++ ([b.1, b.2] ++ pairs (bs.drop (j + 1))) := (congrArg pairs hbs).trans (by simp [pairs])
  have hq6 : P5 ++ pairs (bs.take j) ++ [b.1, b.2] ++ (pairs (bs.drop (j + 1)) ++ (es.drop (k + 1)).flatMap entNs) = All := by
    rw [← HN.out.2, hpr]
    simp
  have hp := putP_any (All := All) A2 c2 (P5 ++ pairs (bs.take j)) (some ⟨wr.heap.size + 1, 0, none⟩) 2 [b.1, b.2] _ _ (SlC.on (SlC.on hs2 hbE) hbC) (by
    have h := sl_ints (wr.alloc (.cells #[.int .i64 b.1, .int .i64 b.2] 59)) [b.1, b.2] 2
    rw [show (wr.alloc (.cells #[.int .i64 b.1, .int .i64 b.2] 59)).heap.size = wr.heap.size + 1 from by simp] at h
    exact h) hq6 HA.out.2.1 HA.out.2.2.1 (by simp)
  have hny : P5 ++ pairs (bs.take j) ++ [b.1, b.2] = P5 ++ pairs (bs.take (j + 1)) := by rw [pairs_succ hb]; simp
  rw [hny] at hp
  obtain ⟨Z, hZ⟩ : ∃ Z, P5 ++ pairs (bs.take (j + 1)) = Z := ⟨_, rfl⟩
  rw [hZ] at hp
  have HZ := hid hZ
  have hbEC : Below w15.heap.size w15 ((wr.alloc (.cells #[.int .i64 b.1, .int .i64 b.2] 59)).alloc (.cells #[.int .i64 b.1, .int .i64 b.2] 2)) := hb17.trans ((hbE.trans (hbC.mono hbE.size)).mono hb17.size)
  have HM := hid (And.intro hp hbEC)
  have hji : (j : Int) < bs.length := by omega
  obtain ⟨x0, x1⟩ := b
  dsimp only at d0 d1 HM ⊢
  generalize P5 ++ pairs (bs.take j) = X2 at *
  clear hZ hp hbEC hny hq6 hpr hbs hbE hbC hs2 hcx2 hb17 hB18 hb
  go_wp2_with fail
  refine HM.out.1.mono ?_
  rintro e' w19 ⟨A19, c19, rfl, hs19, hb19⟩
  have HF := hid (And.intro hs19 (HM.out.2.trans (hb19.mono HM.out.2.size)))
  clear hs19 hb19 HM
  go_wp2_with fail
  go_roundw
  case rel =>
    unfold PutRelF
    refine ⟨j + 1, A19, c19, by omega, by go_num, ?_, ?_, HF.out.2⟩
    · show _ = Value.slice A19 (cat (P5 ++ pairs (bs.take (j + 1)))).length c19
      rw [HZ.out]
    · show SlC _ _ _ (cat (P5 ++ pairs (bs.take (j + 1))))
      rw [HZ.out]
      exact HF.out.1
  case measure => simp [intOf]; omega

theorem bytesF_any {ad : Int → Addr} (kind fr tt life seen : Int) (out : Bool) (count founder hop : Int) (MA : Option Addr) (mc : Nat) (ms : List Int) (EA : Option Addr) (ec : Nat) (es : List EntL) (w : World) (hE : ErrsV ad w) (hR : RingIs w MA ms EA es) (hV : frameE kind fr tt life seen out count founder hop ms es = 0) :
    Calls Tryd.prog 33 #[.agg (frameV kind fr tt life seen out count founder hop MA ms.length mc EA es.length ec)] w (GivesBytesC w (cat (frameNs kind fr tt life seen out count founder hop ms es))) := by
  obtain ⟨_, _, h | h⟩ := frameE_valid hV
  · obtain ⟨rfl, _⟩ := h
    exact bytesBeat_any fr tt life seen out count founder hop MA mc ms EA ec es w hE hR hV
  · obtain ⟨rfl, _⟩ := h
    exact bytesTok_any fr tt life seen out count founder hop MA mc ms EA ec es w hE hR hV
theorem ring_nil (w : World) : RingIs w none [] none [] := ⟨.inl rfl, .inl rfl, (fun _ h => by cases h), by simp⟩
set_option maxRecDepth 100000 in
set_option maxHeartbeats 1600000 in
theorem first5V_any {ad : Int → Addr} (w : World) (hE : ErrsV ad w) : Calls Tryd.prog 31 #[] w (SaysTrue w) := by
  have hp := bytesF_any (ad := ad) 1 0 0 0 0 false 0 0 0 none 0 [] none 0 [] w hE (ring_nil w) (by decide)
  rw [show cat (frameNs 1 0 0 0 0 false 0 0 0 [] []) = [80, 1, 0, 0, 0, 0, 0] from beat_nil] at hp
  go_enter Tryd.func31, Tryd.ntmps31
  go_wp2_with fail
  refine hp.mono ?_
  rintro e w1 ⟨A, c, rfl, hs1, hb1⟩
  have hb2 : Below w1.heap.size w1 (w1.alloc (.cells #[.int .u8 80, .int .u8 1, .int .u8 0, .int .u8 0, .int .u8 0, .int .u8 0, .int .u8 0] 5)) := (Below.refl _ _).alloc (Nat.le_refl _) _
  have hS := sameBytes_same A (some ⟨w1.heap.size, 0, none⟩) c 7 [80, 1, 0, 0, 0, 0, 0] _ (It2 hs1.1 hb2) (sl_lit w1 [80, 1, 0, 0, 0, 0, 0] 5) (by simp)
  have hB2 := hb1.trans (hb2.mono hb1.size)
  clear hp hs1 hb1 hb2
  go_wp2_with fail
  refine hS.mono ?_
  rintro e w' ⟨rfl, q, rfl⟩
  have hB3 := below_drewN hB2 q
  go_wp2_with fail
  go_ret
  exact ⟨rfl, hB3⟩
def LightRel (W : World) (es : List EntL) (i : Value) (wr : World) : Prop := wr = W ∧ ∃ k : Nat, k ≤ es.length ∧ i = .int .i64 k ∧ ∀ j e, j < k → es[j]? = some e → e.bids.length ≤ 20
set_option maxRecDepth 100000 in
set_option maxHeartbeats 1600000 in
theorem light_any (f : FrL) (w : World) (hf : FrOk w f) : Calls Tryd.prog 35 #[f.val] w (SaysB w f.light) := by
  obtain ⟨kind, fr, tt, life, seen, out, count, founder, hop, MA, ms, mc, EA, es, ec⟩ := f
  obtain ⟨hm, he, hb, hl1, hl2, hl3⟩ := hf
  simp only at hm he hb hl1 hl2 hl3
  unfold maxLen at hl1 hl2 hl3
  generalize hL : FrL.light ⟨kind, fr, tt, life, seen, out, count, founder, hop, MA, ms, mc, EA, es, ec⟩ = L
  simp only [FrL.light] at hL
  have HL := hid hL
  clear hL
  have hb1 : Below w.heap.size w (w.alloc (.cells (frameV kind fr tt life seen out count founder hop MA ms.length mc EA es.length ec) 64)) := (Below.refl _ _).alloc (Nat.le_refl _) _
  have hx1 : Blk (w.alloc (.cells (frameV kind fr tt life seen out count founder hop MA ms.length mc EA es.length ec) 64)) w.heap.size (frameL kind fr tt life seen out count founder hop MA ms.length mc EA es.length ec) 64 := Blk.new w _ _
  simp only [FrL.val]
  go_enter Tryd.func35, Tryd.ntmps35
  go_upto_region 1 with (fail)
  generalize w.alloc (.cells (frameV kind fr tt life seen out count founder hop MA ms.length mc EA es.length ec) 64) = w1 at *
  have c9 : w1.cell? ⟨w.heap.size, 9, none⟩ = some (.slice MA ms.length mc) := hx1.cell 9
  have c10 : w1.cell? ⟨w.heap.size, 10, none⟩ = some (.slice EA es.length ec) := hx1.cell 10
  go_wp2_with fail
  go_loopw [3] (fun i wr => LightRel w1 es i wr) (fun i _ => es.length - (intOf i).toNat)
  case atStart => exact ⟨rfl, 0, Nat.zero_le _, rfl, fun j e h => by omega⟩
  case round =>
  obtain ⟨rfl, k, hk, rfl, hgood⟩ := hrel
  by_cases hlt : k < es.length
  case pos =>
    obtain ⟨b0, o0, hb0, hbw, hcx⟩ := he.at (by rw [flat_length EntL.len]; omega)
    obtain rfl : EA = _ := hb0
    obtain ⟨e, hek⟩ : ∃ e, es[k]? = some e := ⟨es[k], List.getElem?_eq_getElem hlt⟩
    have d3 : wr.cell? ⟨b0, o0 + k * 5 + 3, none⟩ = some (.slice e.A e.bids.length e.c) := (hb1.cell (p := ⟨b0, o0 + k * 5 + 3, none⟩) hbw).trans (ent_cell hcx hek (j := 3) (by omega))
    have hki : (k : Int) < es.length := by omega
    have hel := hl3 e (List.mem_of_getElem? hek)
    by_cases h20 : e.bids.length ≤ 20
    · have h20' : (e.bids.length : Int) ≤ 20 := by omega
      have HK : Hid (∀ j e, j < k + 1 → es[j]? = some e → e.bids.length ≤ 20) := by
        intro j e' hj hje
        by_cases h : j = k
        · subst h
          rw [hek] at hje
          obtain rfl := Option.some.inj hje
          exact h20
        · exact hgood j e' (by omega) hje
      clear hcx hgood hek
      go_wp2_with fail
      go_roundw
      case rel => exact ⟨rfl, k + 1, by omega, by go_num, HK.out⟩
      case measure => simp [intOf]; omega
    · have h20' : (20 : Int) < e.bids.length := by omega
      have HO : Hid (L = false) := by
        rw [Hid, ← HL.out]
        have : (es.all fun e => decide (e.bids.length ≤ 20)) = false := by
          rw [List.all_eq_false]
          exact ⟨e, List.mem_of_getElem? hek, by simpa using h20⟩
        rw [this]
        rfl
      clear hcx hgood hek
      go_wp2_with fail
      go_ret
      exact ⟨by rw [HO.out]; rfl, hb1⟩
  case neg =>
    have HO : Hid (L = (decide (ms.length ≤ 20) && decide (es.length ≤ 40))) := by
      rw [Hid, ← HL.out]
      have : (es.all fun e => decide (e.bids.length ≤ 20)) = true := by
        rw [List.all_eq_true]
        intro e hem
        obtain ⟨j, hj⟩ := List.getElem?_of_mem hem
        have := hgood j e (by have := (List.getElem?_eq_some_iff.1 hj).1; omega) hj
        simpa using this
      rw [this]
      rfl
    have hki : (es.length : Int) ≤ k := by omega
    clear hgood
    by_cases h1 : ms.length ≤ 20
    · have h1' : (ms.length : Int) ≤ 20 := by omega
      by_cases h2 : es.length ≤ 40
      · have h2' : (es.length : Int) ≤ 40 := by omega
        go_wp2_with fail
        go_ret
        exact ⟨by rw [HO.out]; simp [h1, h2], hb1⟩
      · have h2' : ¬ (es.length : Int) ≤ 40 := by omega
        go_wp2_with fail
        go_ret
        exact ⟨by rw [HO.out]; simp [h1, h2], hb1⟩
    · have h1' : ¬ (ms.length : Int) ≤ 20 := by omega
      go_wp2_with fail
      go_ret
      exact ⟨by rw [HO.out]; simp [h1], hb1⟩
end Go.Proofs.YtogcbiooddodlaaDoor
