/- Frames as arguments of a statement, opened to plain data. -/
import Derived.Test.YtogcbiooddodlaaDoorFrameRows
import Derived.Test.YtogcbiooddodlaaDoorOpen
import Derived.ChangeSlices
namespace Go.Proofs.YtogcbiooddodlaaDoor
open Go.RowKit Go.Deep Go.ChangeShapes Go.WideShapes

/-- A frame as plain data, and where its lists lie. -/
structure FrL where
  kind : Int
  fr : Int
  tt : Int
  life : Int
  seen : Int
  out : Bool
  count : Int
  founder : Int
  hop : Int
  MA : Option Addr
  ms : List Int
  mc : Nat
  EA : Option Addr
  es : List EntL
  ec : Nat
abbrev FrL.cells (f : FrL) : List Value := frameL f.kind f.fr f.tt f.life f.seen f.out f.count f.founder f.hop f.MA f.ms.length f.mc f.EA f.es.length f.ec
abbrev FrL.val (f : FrL) : Value := .agg (frameV f.kind f.fr f.tt f.life f.seen f.out f.count f.founder f.hop f.MA f.ms.length f.mc f.EA f.es.length f.ec)
structure FrOk (w : World) (f : FrL) : Prop where
  mem : Sl w f.MA (f.ms.map (Value.int .i64))
  ent : Sl w f.EA (f.es.flatMap EntL.cells)
  bid : ∀ e ∈ f.es, e.here w
  lens : f.ms.length ≤ maxLen ∧ f.es.length ≤ maxLen ∧ ∀ e ∈ f.es, e.bids.length ≤ maxLen
theorem FrOk.on {w w' : World} {f : FrL} (h : FrOk w f) (hb : Below w.heap.size w w') : FrOk w' f := ⟨It2 h.mem hb, It2 h.ent hb, fun e he => EntL.on (h.bid e he) hb, h.lens⟩
/-- Small enough to be looked at. -/
def FrL.light (f : FrL) : Bool := (f.es.all fun e => decide (e.bids.length ≤ 20)) && decide (f.ms.length ≤ 20) && decide (f.es.length ≤ 40)
theorem FrOk.ring {w : World} {f : FrL} (h : FrOk w f) (hl : f.light = true) : RingIs w f.MA f.ms f.EA f.es := by
  simp only [FrL.light, Bool.and_eq_true, decide_eq_true_eq] at hl
  exact ⟨h.mem, h.ent, h.bid, by omega, by omega, fun e he => by have := List.all_eq_true.1 hl.1.1 e he; simp only [decide_eq_true_eq] at this; omega⟩

theorem row_call : fieldRow Tryd.prog 55 = some [(3, 0), (3, 1)] := by kernel_rfl
theorem row_latch : fieldRow Tryd.prog 57 = some [(55, 0), (3, 2)] := by kernel_rfl
theorem row_bid : fieldRow Tryd.prog 59 = some [(3, 0), (3, 1)] := by kernel_rfl
theorem row_entry : fieldRow Tryd.prog 62 = some [(57, 0), (60, 3), (3, 4)] := by kernel_rfl
theorem row_epoch : fieldRow Tryd.prog 50 = some [(2, 0), (3, 1)] := by kernel_rfl
theorem row_ring : fieldRow Tryd.prog 53 = some [(50, 0), (2, 2), (46, 3), (51, 4)] := by kernel_rfl
theorem row_frame : fieldRow Tryd.prog 64 = some [(3, 0), (3, 1), (3, 2), (2, 3), (2, 4), (4, 5), (53, 6)] := by kernel_rfl
theorem cells_call : Tryd.prog.cellsOf 55 = 2 := by kernel_rfl
theorem cells_latch : Tryd.prog.cellsOf 57 = 3 := by kernel_rfl
theorem cells_bid : Tryd.prog.cellsOf 59 = 2 := by kernel_rfl
theorem cells_entry : Tryd.prog.cellsOf 62 = 5 := by kernel_rfl
theorem cells_epoch : Tryd.prog.cellsOf 50 = 2 := by kernel_rfl
theorem cells_ring : Tryd.prog.cellsOf 53 = 5 := by kernel_rfl
theorem cells_frame : Tryd.prog.cellsOf 64 = 11 := by kernel_rfl
theorem cells_int : Tryd.prog.cellsOf 3 = 1 := by kernel_rfl
theorem cells_int64 : Tryd.prog.cellsOf 2 = 1 := by kernel_rfl
theorem cells_bool : Tryd.prog.cellsOf 4 = 1 := by kernel_rfl
theorem cells_sints : Tryd.prog.cellsOf 46 = 1 := by kernel_rfl
theorem cells_sbids : Tryd.prog.cellsOf 60 = 1 := by kernel_rfl
theorem cells_sentries : Tryd.prog.cellsOf 51 = 1 := by kernel_rfl
theorem list11 {α : Type} {l : List α} (h : l.length = 11) : ∃ a b c d e f g i j k m, l = [a, b, c, d, e, f, g, i, j, k, m] := by
  match l, h with
  | [a, b, c, d, e, f, g, i, j, k, m], _ => exact ⟨a, b, c, d, e, f, g, i, j, k, m, rfl⟩
section
variable {H : Type} {enc : TypeId × Value → H} {w : World} {base : Nat} {spare : Nat → Bool} {held : Bool}
theorem open_two {t : TypeId} (hr : fieldRow Tryd.prog t = some [(3, 0), (3, 1)]) (hc : Tryd.prog.cellsOf t = 2) (n : Nat) (cs : List Value) (x : DataW H × List MemPlace) (h : DataW.trod enc Tryd.prog w base spare held n t cs = some x) : ∃ a b : Int, cs = [.int .i64 a, .int .i64 b] := by
  obtain ⟨hl, n, hf⟩ := open_struct hr h
  rw [hc] at hl
  obtain ⟨c0, c1, rfl⟩ := list2 hl
  obtain ⟨y0, h0⟩ := hf 0 _ rfl
  obtain ⟨y1, h1⟩ := hf 1 _ rfl
  simp only [cells_int] at h0 h1
  obtain ⟨a0, e0, _, _⟩ := DataW.trod_int Tryd.underlying3 h0
  obtain ⟨a1, e1, _, _⟩ := DataW.trod_int Tryd.underlying3 h1
  simp at e0 e1
  exact ⟨a0, a1, by rw [e0, e1]⟩
theorem open_bid (n : Nat) (cs : List Value) (x : DataW H × List MemPlace) (h : DataW.trod enc Tryd.prog w base spare held n 59 cs = some x) : ∃ b : Int × Int, cs = bidC b ∧ True := by
  obtain ⟨a, b, e⟩ := open_two row_bid cells_bid n cs x h
  exact ⟨(a, b), e, trivial⟩
theorem open_epoch (n : Nat) (cs : List Value) (x : DataW H × List MemPlace) (h : DataW.trod enc Tryd.prog w base spare held n 50 cs = some x) : ∃ c f : Int, cs = [.int .i64 c, .int .i64 f] := by
  obtain ⟨hl, n, hf⟩ := open_struct row_epoch h
  rw [cells_epoch] at hl
  obtain ⟨c0, c1, rfl⟩ := list2 hl
  obtain ⟨y0, h0⟩ := hf 0 _ rfl
  obtain ⟨y1, h1⟩ := hf 1 _ rfl
  simp only [cells_int, cells_int64] at h0 h1
  obtain ⟨a0, e0, _, _⟩ := DataW.trod_int Tryd.underlying2 h0
  obtain ⟨a1, e1, _, _⟩ := DataW.trod_int Tryd.underlying3 h1
  simp at e0 e1
  exact ⟨a0, a1, by rw [e0, e1]⟩
theorem open_latch (n : Nat) (cs : List Value) (x : DataW H × List MemPlace) (h : DataW.trod enc Tryd.prog w base spare held n 57 cs = some x) : ∃ f d g : Int, cs = [.int .i64 f, .int .i64 d, .int .i64 g] := by
  obtain ⟨hl, n, hf⟩ := open_struct row_latch h
  rw [cells_latch] at hl
  obtain ⟨c0, c1, c2, rfl⟩ := list3 hl
  obtain ⟨y0, h0⟩ := hf 0 _ rfl
  obtain ⟨y1, h1⟩ := hf 1 _ rfl
  simp only [cells_call, cells_int] at h0 h1
  obtain ⟨a, b, e0⟩ := open_two row_call cells_call _ _ _ h0
  obtain ⟨a1, e1, _, _⟩ := DataW.trod_int Tryd.underlying3 h1
  simp at e0 e1
  obtain ⟨rfl, rfl⟩ := e0
  exact ⟨a, b, a1, by rw [e1]⟩
theorem open_entry (n : Nat) (cs : List Value) (x : DataW H × List MemPlace) (h : DataW.trod enc Tryd.prog w base spare held n 62 cs = some x) : ∃ e : EntL, cs = e.cells ∧ (e.here w ∧ e.bids.length ≤ maxLen) := by
  obtain ⟨hl, n, hf⟩ := open_struct row_entry h
  rw [cells_entry] at hl
  obtain ⟨c0, c1, c2, c3, c4, rfl⟩ := list5 hl
  obtain ⟨y0, h0⟩ := hf 0 _ rfl
  obtain ⟨y1, h1⟩ := hf 1 _ rfl
  obtain ⟨y2, h2⟩ := hf 2 _ rfl
  simp only [cells_latch, cells_sbids, cells_int] at h0 h1 h2
  obtain ⟨f, d, g, e0⟩ := open_latch _ _ _ h0
  obtain ⟨a, e2, _, _⟩ := DataW.trod_int Tryd.underlying3 h2
  obtain ⟨A, len, cap, bs, e1, hn, hnc, hcm, hs, _⟩ := open_rows Tryd.underlying60 bidC (fun _ => True) 2 (by decide) bidC_len cells_bid open_bid h1
  simp at e0 e1 e2
  obtain ⟨rfl, rfl, rfl⟩ := e0
  subst e1 e2 hn
  exact ⟨⟨f, d, g, a, bs, A, cap⟩, rfl, hs, Nat.le_trans hnc hcm⟩
theorem open_frame (n : Nat) (cs : List Value) (x : DataW H × List MemPlace) (h : DataW.trod enc Tryd.prog w base spare held n 64 cs = some x) : ∃ f : FrL, cs = f.cells ∧ FrOk w f := by
  obtain ⟨hl, n, hf⟩ := open_struct row_frame h
  rw [cells_frame] at hl
  obtain ⟨c0, c1, c2, c3, c4, c5, c6, c7, c8, c9, c10, rfl⟩ := list11 hl
  obtain ⟨y0, h0⟩ := hf 0 _ rfl
  obtain ⟨y1, h1⟩ := hf 1 _ rfl
  obtain ⟨y2, h2⟩ := hf 2 _ rfl
  obtain ⟨y3, h3⟩ := hf 3 _ rfl
  obtain ⟨y4, h4⟩ := hf 4 _ rfl
  obtain ⟨y5, h5⟩ := hf 5 _ rfl
  obtain ⟨y6, h6⟩ := hf 6 _ rfl
  simp only [cells_int, cells_int64, cells_bool, cells_ring] at h0 h1 h2 h3 h4 h5 h6
  obtain ⟨a0, e0, _, _⟩ := DataW.trod_int Tryd.underlying3 h0
  obtain ⟨a1, e1, _, _⟩ := DataW.trod_int Tryd.underlying3 h1
  obtain ⟨a2, e2, _, _⟩ := DataW.trod_int Tryd.underlying3 h2
  obtain ⟨a3, e3, _, _⟩ := DataW.trod_int Tryd.underlying2 h3
  obtain ⟨a4, e4, _, _⟩ := DataW.trod_int Tryd.underlying2 h4
  obtain ⟨a5, e5, _⟩ := DataW.trod_bool Tryd.underlying4 h5
  obtain ⟨hl6, n6, hf6⟩ := open_struct row_ring h6
  obtain ⟨z0, g0⟩ := hf6 0 _ rfl
  obtain ⟨z1, g1⟩ := hf6 1 _ rfl
  obtain ⟨z2, g2⟩ := hf6 2 _ rfl
  obtain ⟨z3, g3⟩ := hf6 3 _ rfl
  simp only [cells_epoch, cells_int64, cells_sints, cells_sentries] at g0 g1 g2 g3
  obtain ⟨c, f, e6⟩ := open_epoch _ _ _ g0
  obtain ⟨hop, e8, _, _⟩ := DataW.trod_int Tryd.underlying2 g1
  obtain ⟨mA, ms, mC, e9, hs, hml⟩ : ∃ (A : Option Addr) (ms : List Int) (C : Nat), c9 = .slice A ms.length C ∧ Sl w A (ms.map (Value.int .i64)) ∧ ms.length ≤ maxLen := by
    rcases open_ints Tryd.underlying46 Tryd.underlying3 (by kernel_rfl) g2 with ⟨hcs, _⟩ | ⟨a, l, C, zs, hcs, _, hl, hm, hz, _, hcell, _⟩
    · simp at hcs
      exact ⟨none, [], 0, hcs, .inl rfl, Nat.zero_le _⟩
    · simp at hcs
      have hlz : l ≤ zs.length := by rw [hz]; split <;> omega
      refine ⟨some a, zs.take l, C, by rw [hcs, List.length_take, Nat.min_eq_left hlz], sl_of_cells hlz hcell, ?_⟩
      rw [List.length_take]
      omega
  obtain ⟨eA, elen, ecap, es, e10, hn, hnc, hcm, hes, hg⟩ := open_rows Tryd.underlying51 EntL.cells (fun e => e.here w ∧ e.bids.length ≤ maxLen) 5 (by decide) EntL.len cells_entry open_entry g3
  simp at e0 e1 e2 e3 e4 e5 e6 e8 e10
  obtain ⟨rfl, rfl⟩ := e6
  subst e0 e1 e2 e3 e4 e5 e8 e9 e10 hn
  exact ⟨⟨a0, a1, a2, a3, a4, a5, c, f, hop, mA, ms, mC, eA, es, ecap⟩, rfl, ⟨hs, hes, fun e he => (hg e he).1, hml, Nat.le_trans hnc hcm, fun e he => (hg e he).2⟩⟩
end
end Go.Proofs.YtogcbiooddodlaaDoor
