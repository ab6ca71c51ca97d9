/- A memory whose power may go, as plain data. No program in sight. -/
import Derived.Test.YtmfdpjijpbgjbaaDoorLib
namespace Go.Proofs.YtmfdpjijpbgjbaaDoor
open Go.RowKit

structure Cl where
  bs : List Int
  fuse : Int
  down : Bool
  writes : Int
def Cl.ok (c : Cl) : Prop := 0 ≤ c.fuse ∧ c.fuse ≤ 9223372036854775807 ∧ (∀ x ∈ c.bs, 0 ≤ x ∧ x ≤ 255)
def Cl.gone (c : Cl) : Cl := if c.down = false ∧ 0 < c.fuse then { c with fuse := c.fuse - 1, down := c.fuse - 1 == 0 } else c
def Cl.is (c : Cl) (i : Int) : Bool := decide (0 ≤ i) && decide (i < c.bs.length)
/-- What a Put answers: the error's number. -/
def Cl.putE (c : Cl) (i : Int) : Int := if c.gone.down then 105 else if c.is i then 0 else 106
def Cl.put (c : Cl) (i b : Int) : Cl := if c.gone.down then c.gone else if c.is i then { c.gone with bs := c.bs.set i.toNat b, writes := c.writes + 1 } else c.gone
def Cl.getE (c : Cl) (i : Int) : Int := if c.down then 105 else if c.is i then 0 else 106
def Cl.get (c : Cl) (i : Int) : Int := if c.down then 0 else if c.is i then c.bs.getD i.toNat 0 else 0
def Cl.arm (c : Cl) (n : Int) : Cl := { c with fuse := max n 0 }
def Cl.back (c : Cl) : Cl := { c with fuse := 0, down := false }
def Cl.new (n : Nat) : Cl := ⟨List.replicate n 0, 0, false, 0⟩

theorem Cl.gone_bs (c : Cl) : c.gone.bs = c.bs := by unfold Cl.gone; split <;> rfl
theorem Cl.gone_writes (c : Cl) : c.gone.writes = c.writes := by unfold Cl.gone; split <;> rfl
theorem Cl.gone_ok {c : Cl} (h : c.ok) : c.gone.ok := by
  unfold Cl.gone
  split
  · rename_i hh; exact ⟨by have := hh.2; simp only; omega, by have := h.2.1; simp only; omega, h.2.2⟩
  · exact h
theorem Cl.put_ok {c : Cl} (h : c.ok) (i b : Int) (hb : 0 ≤ b ∧ b ≤ 255) : (c.put i b).ok := by
  have hg := Cl.gone_ok h
  unfold Cl.put
  split
  · exact hg
  · split
    · refine ⟨hg.1, hg.2.1, fun x hx => ?_⟩
      rcases List.mem_or_eq_of_mem_set hx with hx | rfl
      · exact h.2.2 x hx
      · exact hb
    · exact hg
theorem Cl.arm_ok {c : Cl} (h : c.ok) (n : Int) (hn : n ≤ 9223372036854775807) : (c.arm n).ok := ⟨by simp only [Cl.arm]; omega, by simp only [Cl.arm]; omega, h.2.2⟩
theorem Cl.back_ok {c : Cl} (h : c.ok) : c.back.ok := ⟨by simp [Cl.back], by simp [Cl.back], h.2.2⟩
theorem Cl.new_ok (n : Nat) : (Cl.new n).ok := ⟨by simp [Cl.new], by simp [Cl.new], fun x hx => by simp only [Cl.new] at hx; rw [List.eq_of_mem_replicate hx]; omega⟩
theorem Cl.put_len (c : Cl) (i b : Int) : (c.put i b).bs.length = c.bs.length := by
  unfold Cl.put
  split
  · rw [Cl.gone_bs]
  · split
    · simp
    · rw [Cl.gone_bs]
theorem Cl.put_writes (c : Cl) (i b : Int) : (c.put i b).writes = c.writes + (if c.putE i = 0 then 1 else 0) := by
  unfold Cl.put Cl.putE
  split
  · simp [Cl.gone_writes]
  · split
    · simp
    · simp [Cl.gone_writes]
theorem Cl.get_byte {c : Cl} (h : c.ok) (i : Int) : 0 ≤ c.get i ∧ c.get i ≤ 255 := by
  unfold Cl.get
  split
  · omega
  · split
    · rename_i _ hi
      simp only [Cl.is, Bool.and_eq_true, decide_eq_true_eq] at hi
      have hl : i.toNat < c.bs.length := by omega
      have := h.2.2 (c.bs[i.toNat]) (List.getElem_mem hl)
      rw [List.getD_eq_getElem?_getD, List.getElem?_eq_getElem hl]
      simpa using this
    · omega
/-- How it lies: the struct in block b, the row of bytes in block g. -/
def CellAt (T E : TypeId) (w : World) (b g : Nat) (c : Cl) : Prop :=
  b ≠ g ∧ ∃ cap cur, Blk w b [.slice (some ⟨g, 0, none⟩) c.bs.length cap, .int .i64 c.fuse, .bool c.down, .int .i64 c.writes] T ∧ Blk w g cur E ∧ c.bs.length ≤ cap ∧ cap = cur.length ∧ cap ≤ maxLen ∧ cur.take c.bs.length = c.bs.map (Value.int .u8)
theorem CellAt.eff {T E : TypeId} {S : Nat → Prop} {w w' : World} {b g : Nat} {c : Cl} (h : CellAt T E w b g c) (he : Eff S w w') (h1 : ¬ S b) (h2 : ¬ S g) : CellAt T E w' b g c := by
  obtain ⟨hn, cap, cur, hb, hg, r⟩ := h
  exact ⟨hn, cap, cur, he.blk hb h1, he.blk hg h2, r⟩
theorem CellAt.below {T E : TypeId} {w w' : World} {b g : Nat} {c : Cl} (h : CellAt T E w b g c) (hb : Below w.heap.size w w') : CellAt T E w' b g c :=
  h.eff (Eff.of_below (S := fun _ => False) hb) (fun h => h) (fun h => h)
theorem CellAt.drew {T E : TypeId} {w : World} {b g : Nat} {c : Cl} (h : CellAt T E w b g c) : CellAt T E w.drew b g c := h
theorem CellAt.lt {T E : TypeId} {w : World} {b g : Nat} {c : Cl} (h : CellAt T E w b g c) : b < w.heap.size ∧ g < w.heap.size := by
  obtain ⟨_, cap, cur, hb, hg, _⟩ := h
  exact ⟨hb.lt, hg.lt⟩
theorem take_set_map {bs : List Int} {cur : List Value} {f : Int → Value} (h : cur.take bs.length = bs.map f) (i : Nat) (x : Int) : (cur.set i (f x)).take (bs.set i x).length = (bs.set i x).map f := by
  rw [List.length_set, List.take_set, h, List.map_set]
theorem take_get {bs : List Int} {cur : List Value} {f : Int → Value} (h : cur.take bs.length = bs.map f) {i : Nat} (hi : i < bs.length) : cur[i]? = some (f (bs.getD i 0)) := by
  have h2 : (cur.take bs.length)[i]? = (bs.map f)[i]? := by rw [h]
  rw [List.getElem?_take_of_lt hi] at h2
  rw [h2, List.getElem?_map, List.getElem?_eq_getElem hi, List.getD_eq_getElem?_getD, List.getElem?_eq_getElem hi]
  rfl
end Go.Proofs.YtmfdpjijpbgjbaaDoor
