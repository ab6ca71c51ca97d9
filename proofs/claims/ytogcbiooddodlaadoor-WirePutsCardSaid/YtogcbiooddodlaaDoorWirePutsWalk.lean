/- WirePuts: the walk. -/
import Derived.Test.YtogcbiooddodlaaDoorWireTextS
namespace Go.Proofs.YtogcbiooddodlaaDoor
open Go.RowKit
set_option linter.unusedSimpArgs false

set_option maxRecDepth 100000 in
set_option maxHeartbeats 8000000 in
theorem wirePuts_walk {ad : Int → Addr} (A : Option Addr) (c : Nat) (xs : List Int) (n : Int) (hn : inI n) (s : ByteArray) (w : World) (hs : Sl w A (xs.map (Value.int .u8))) (hE : Errs3 ad w) :
    Calls Tryd.prog 5 #[.slice A xs.length c, .int .i64 n, .string s] w (SaysTrue w) := by
  by_cases h100 : xs.length ≤ 100
  · by_cases hs100 : s.size ≤ 100
    · have h100' : ¬ 100 < (xs.length : Int) := by omega
      have hs100' : ¬ 100 < (s.size : Int) := by omega
      have HN := hid hn
      have h10 := form_len10 (zz_lt hn)
      have hT : (formT s).length ≤ 110 := by rw [formT_len]; have := form_len10 (zz_lt (inI_size (s := s) (by omega))); omega
      obtain ⟨P, hP⟩ : ∃ P, xs ++ form (zz n) = P := ⟨_, rfl⟩
      obtain ⟨Q, hQ⟩ : ∃ Q, xs ++ formT s = Q := ⟨_, rfl⟩
      obtain ⟨X, hX⟩ : ∃ X, form (zz n) ++ formT s = X := ⟨_, rfl⟩
      obtain ⟨F, hF⟩ : ∃ F, form (zz n) = F := ⟨_, rfl⟩
      have hPl : P.length ≤ 1000 := by rw [← hP, List.length_append]; omega
      have hQl : Q.length ≤ 1000 := by rw [← hQ, List.length_append]; omega
      have hXl : X.length ≤ 1000 := by rw [← hX, List.length_append]; omega
      have hFl : F.length ≤ 1000 := by rw [← hF]; omega
      have hXb : IsB X := hX ▸ isb_append (form_b _) (formT_b _)
      have hXlen : X.length = F.length + (formT s).length := by rw [← hX, List.length_append, hF]
      have hnum : numR X (-9223372036854775808) 9223372036854775807 0 none = (n, F.length, none) := by
        rw [numR, List.drop_zero, ← hX, rd_form hn, numAt, if_pos ⟨by have := hn.1; omega, by have := hn.2; omega⟩, Nat.zero_add, hF]
      have htxt : textR X 100 F.length none = (s, X.length, none) := by
        rw [text_read (s := s) (rest := []) (by rw [← hX, hF, List.drop_left, List.append_nil]) (by omega) (by omega), hXlen]
      have HH := hid (And.intro hP (And.intro hQ (And.intro hX (And.intro hF (And.intro hXb (And.intro hnum htxt))))))
      clear hn hP hQ hX hF hT h10 hXlen hnum htxt hXb
      go_enter Tryd.func5, Tryd.ntmps5
      go_wp2_with fail
      refine (first_any _).mono ?_
      rintro e w1 ⟨rfl, hB1⟩
      go_wp2_with fail
      have hs1 := It2 hs hB1
      refine (refBytes_any A c xs w1 hs1 (by omega)).mono ?_
      rintro e w2 ⟨v2, rfl, hown2, hb2⟩
      obtain ⟨A2, c2, rfl, _, _, hw2⟩ := Sl.row hown2
      have hB2 := hB1.trans (hb2.mono hB1.size)
      have hs2 := It2 hs hB2
      clear hown2 hb2 hs1 hB1
      have hc := putW_any n HN.out A c xs w2 hs2 (by omega)
      rw [HH.out.1] at hc
      go_wp2_with fail
      refine hc.mono ?_
      rintro e w3 ⟨v3, rfl, hown3, hb3⟩
      obtain ⟨A3, c3, rfl, _, _, hp3⟩ := Sl.row hown3
      have hB3 := hB2.trans (hb3.mono hB2.size)
      have hs3 := It2 hs hB3
      have hw3 := It2 hw2 hb3
      clear hown3 hb3 hw2 hs2 hB2 hc
      have hc := putText_any A c xs s w3 hs3 (by omega) (by omega)
      rw [HH.out.2.1] at hc
      go_wp2_with fail
      refine hc.mono ?_
      rintro e w4 ⟨v4, rfl, hown4, hb4⟩
      obtain ⟨A4, c4, rfl, _, _, hq4⟩ := Sl.row hown4
      have hB4 := hB3.trans (hb4.mono hB3.size)
      have hs4 := It2 hs hB4
      have hw4 := It2 hw3 hb4
      have hp4 := It2 hp3 hb4
      clear hown4 hb4 hw3 hs3 hp3 hB3 hc
      have hc := putNil_any n HN.out w4
      rw [HH.out.2.2.2.1] at hc
      go_wp2_with fail
      refine hc.mono ?_
      rintro e w5 ⟨v5, rfl, hown5, hb5⟩
      obtain ⟨A5, c5, rfl, _, _, hx5⟩ := Sl.row hown5
      have hB5 := hB4.trans (hb5.mono hB4.size)
      have hs5 := It2 hs hB5
      have hw5 := It2 hw4 hb5
      have hp5 := It2 hp4 hb5
      have hq5 := It2 hq4 hb5
      clear hown5 hb5 hw4 hs4 hp4 hq4 hB4 hc
      have hc := putText_any A5 c5 F s w5 hx5 (by omega) (by omega)
      rw [← HH.out.2.2.2.1, HH.out.2.2.1, HH.out.2.2.2.1] at hc
      go_wp2_with fail
      refine hc.mono ?_
      rintro e w6 ⟨v6, rfl, hown6, hb6⟩
      obtain ⟨A6, c6, rfl, _, _, hx6⟩ := Sl.row hown6
      have hB6 := hB5.trans (hb6.mono hB5.size)
      have hs6 := It2 hs hB6
      have hw6 := It2 hw5 hb6
      have hp6 := It2 hp5 hb6
      have hq6 := It2 hq5 hb6
      clear hown6 hb6 hw5 hs5 hp5 hq5 hx5 hB5 hc
      have hc := newReader_any A6 c6 X w6 hx6 (by omega) HH.out.2.2.2.2.1
      go_wp2_with fail
      refine hc.mono ?_
      rintro e w7 ⟨r, rfl, hR7, hr7, hb7⟩
      have hB7 := hB6.trans (hb7.mono hB6.size)
      have hs7 := It2 hs hB7
      have hw7 := It2 hw6 hb7
      have hp7 := It2 hp6 hb7
      have hq7 := It2 hq6 hb7
      have hlo := Nat.le_trans hB6.size hr7
      clear hr7 hb7 hw6 hs6 hp6 hq6 hx6 hc
      have hc := refPut_any n HN.out A c xs w7 hs7 (by omega)
      rw [HH.out.1] at hc
      go_wp2_with fail
      refine hc.mono ?_
      rintro e w8 ⟨v8, rfl, hown8, hb8⟩
      obtain ⟨A8, c8, rfl, _, _, hx8⟩ := Sl.row hown8
      have hB8 := hB7.trans (hb8.mono hB7.size)
      have hs8 := It2 hs hB8
      have hw8 := It2 hw7 hb8
      have hp8 := It2 hp7 hb8
      have hq8 := It2 hq7 hb8
      have hR8 := hR7.on hb8
      clear hown8 hb8 hw7 hs7 hp7 hq7 hB7 hc hR7
      have hc := sameBytes_same A3 A8 c3 c8 P w8 hp8 hx8 (by omega)
      go_wp2_with fail
      refine hc.mono ?_
      rintro e w' ⟨rfl, q9, rfl⟩
      have hb9 := below_drewN (Below.refl w8.heap.size w8) q9
      have hB9 := hB8.trans (hb9.mono hB8.size)
      have hs9 := It2 hs hB9
      have hw9 := It2 hw8 hb9
      have hq9 := It2 hq8 hb9
      have hR9 := hR8.on hb9
      clear hb9 hw8 hs8 hp8 hq8 hB8 hc hR8 hx8
      generalize w8.drewN q9 = w9 at *
      have hc := refPutText_any A c xs s w9 hs9 (by omega) (by omega)
      rw [HH.out.2.1] at hc
      go_wp2_with fail
      refine hc.mono ?_
      rintro e w10 ⟨v10, rfl, hown10, hb10⟩
      obtain ⟨A10, c10, rfl, _, _, hx10⟩ := Sl.row hown10
      have hB10 := hB9.trans (hb10.mono hB9.size)
      have hs10 := It2 hs hB10
      have hw10 := It2 hw9 hb10
      have hq10 := It2 hq9 hb10
      have hR10 := hR9.on hb10
      clear hown10 hb10 hw9 hs9 hq9 hB9 hc hR9
      have hc := sameBytes_same A4 A10 c4 c10 Q w10 hq10 hx10 (by omega)
      go_wp2_with fail
      refine hc.mono ?_
      rintro e w' ⟨rfl, q11, rfl⟩
      have hb11 := below_drewN (Below.refl w10.heap.size w10) q11
      have hB11 := hB10.trans (hb11.mono hB10.size)
      have hs11 := It2 hs hB11
      have hw11 := It2 hw10 hb11
      have hR11 := hR10.on hb11
      clear hb11 hw10 hs10 hq10 hB10 hc hR10 hx10
      generalize w10.drewN q11 = w11 at *
      have hc := sameBytes_same A A2 c c2 xs w11 hs11 hw11 (by omega)
      go_wp2_with fail
      refine hc.mono ?_
      rintro e w' ⟨rfl, q12, rfl⟩
      have hb12 := below_drewN (Below.refl w11.heap.size w11) q12
      have hB12 := hB11.trans (hb12.mono hB11.size)
      have hR12 := hR11.on hb12
      clear hb12 hw11 hs11 hB11 hc hR11 hs
      generalize w11.drewN q12 = w12 at *
      have hc := num_any (o := none) (-9223372036854775808) 9223372036854775807 w12 (hE.below hB12) ⟨_, hR12, rfl⟩
      rw [HH.out.2.2.2.2.2.1] at hc
      go_wp2_with fail
      refine hc.mono ?_
      rintro e w13 ⟨rfl, hR13, he13⟩
      have hR13 : RdrL ad w13 w6.heap.size r X F.length none := hR13
      have hB13 : Below w.heap.size w w13 := he13.below hB12 hB12.size (fun i hi h => by omega)
      clear hc he13 hB12 hR12
      have hc := text_any 100 w13 (hE.below hB13) hR13
      rw [HH.out.2.2.2.2.2.2] at hc
      go_wp2_with fail
      refine hc.mono ?_
      rintro e w14 ⟨rfl, ⟨ev, hR14, hev⟩, he14⟩
      have hev : ev = .nilIface := hev
      subst hev
      have hB14 : Below w.heap.size w w14 := he14.below hB13 hB13.size (fun i hi h => by omega)
      clear hc he14 hB13 hR13
      have hnn : (n == n) = true := by simp
      have hR14 : RdrIs w14 w6.heap.size r X X.length .nilIface := hR14
      have hc := left_any w14 hR14
      go_wp2_with fail
      refine hc.mono ?_
      rintro e w' ⟨rfl, q15, rfl⟩
      have hB15 := below_drewN hB14 q15
      have hR15 := hR14.on (below_drewN (Below.refl w14.heap.size w14) q15)
      clear hc hB14 hR14
      generalize w14.drewN q15 = w15 at *
      go_wp2_with fail
      refine (errOf_any _ hR15).mono ?_
      rintro e w' ⟨rfl, rfl⟩
      go_wp2_with fail
      go_ret
      exact ⟨rfl, hB15⟩
    · have h100' : ¬ 100 < (xs.length : Int) := by omega
      have hs100' : 100 < (s.size : Int) := by omega
      go_enter Tryd.func5, Tryd.ntmps5
      go_wp2_with fail
      refine (first_any _).mono ?_
      rintro e w1 ⟨rfl, hB1⟩
      go_wp2_with fail
      go_ret
      exact ⟨rfl, hB1⟩
  · have h100' : 100 < (xs.length : Int) := by omega
    go_enter Tryd.func5, Tryd.ntmps5
    go_wp2_with fail
    refine (first_any _).mono ?_
    rintro e w1 ⟨rfl, hB1⟩
    go_wp2_with fail
    go_ret
    exact ⟨rfl, hB1⟩
end Go.Proofs.YtogcbiooddodlaaDoor
