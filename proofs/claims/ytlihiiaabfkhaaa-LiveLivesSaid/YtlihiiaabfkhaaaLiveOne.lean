/- Tables of which one car alone was ever heard: plain facts; no program in sight. -/
import Derived.Test.YtlihiiaabfkhaaaLivePure
namespace Go.Proofs.Ytlihiiaabfkhaaa
open Go.RowKit

def Tab.lone (c : Nat) (o : One) (s : Int) : Tab := ⟨(List.replicate 16 One.zero).set c o, s⟩
theorem lone_zero (c : Nat) : Tab.zero = Tab.lone c One.zero 0 := by
  simp only [Tab.lone, Tab.zero, Tab.mk.injEq, and_true]
  symm
  apply List.ext_getElem?
  intro i
  simp only [List.getElem?_set, List.getElem?_replicate, List.length_replicate]
  split <;> split <;> simp_all
theorem lone_ok {c : Nat} {o : One} {s : Int} (h : o.ok) : (Tab.lone c o s).ok := by
  have h2 := Tab.put_ok (t := ⟨List.replicate 16 One.zero, s⟩) ⟨by simp, Tab.ok_zero.2⟩ c h
  exact h2
theorem lone_at {c : Nat} (hc : c < 16) (o : One) (s : Int) : (Tab.lone c o s).at c = o := by
  simp [Tab.lone, Tab.at, List.getD_eq_getElem?_getD, hc]
theorem lone_at_ne {c i : Nat} (h : i ≠ c) (o : One) (s : Int) : (Tab.lone c o s).at i = One.zero := by
  simp only [Tab.lone, Tab.at, List.getD_eq_getElem?_getD, List.getElem?_set, List.getElem?_replicate]
  rw [if_neg (fun e => h e.symm)]
  split <;> simp
theorem lone_hear {c : Nat} (n : Int) (hn : n = c) (o : One) (s life seen : Int) (out : Bool) (hy : (Tab.lone c o s).takes n life seen = true) :
    (Tab.lone c o s).hear n life seen out = Tab.lone c ⟨true, true, out, life, 0⟩ (max s seen) := by
  unfold Tab.hear
  rw [if_pos hy]
  subst hn
  simp [Tab.lone]
theorem lone_takes {c : Nat} (hc : c < 16) (n : Int) (hn : n = c) (o : One) (s life seen : Int) : (Tab.lone c o s).takes n life seen = (decide (0 ≤ life) && decide (0 ≤ seen) && !(o.known && decide (life < o.life))) := by
  subst hn
  unfold Tab.takes
  have h : (c : Int) < 16 := by omega
  simp [lone_at hc, h]
theorem zero_tick : One.zero.tick = One.zero := by simp [One.tick, One.zero]
theorem lone_tick (c : Nat) (o : One) (s : Int) : (Tab.lone c o s).tick = Tab.lone c o.tick s := by
  simp [Tab.lone, Tab.tick, List.map_set, zero_tick]
theorem lone_alive {c : Nat} (hc : c < 16) (o : One) (s : Int) : (Tab.lone c o s).alive = if o.alive = true then [(c : Int)] else [] := by
  unfold Tab.alive Tab.aliveTo
  have e : ((List.range 16).filter fun i => ((Tab.lone c o s).at i).alive) = (List.range 16).filter fun i => decide (i = c) && o.alive := by
    apply List.filter_congr
    intro i _
    by_cases h : i = c
    · subst h
      simp [lone_at hc]
    · rw [lone_at_ne h]
      simp [h, One.alive, One.zero]
  rw [e]
  cases o.alive with
  | false => simp
  | true =>
    have : ∀ c, c < 16 → ((List.range 16).filter fun i => decide (i = c) && true).map Int.ofNat = [(c : Int)] := by decide
    simpa using this c hc
theorem lone_has {c : Nat} (hc : c < 16) (n : Int) (hn : n = c) (o : One) (s : Int) : (Tab.lone c o s).has n = o.known := by
  subst hn
  have h : (c : Int) < 16 := by omega
  simp [Tab.has, lone_at hc, h]
theorem lone_life {c : Nat} (hc : c < 16) (n : Int) (hn : n = c) (o : One) (s : Int) : (Tab.lone c o s).lifeOf n = if o.known = true then o.life else 0 := by
  unfold Tab.lifeOf
  rw [lone_has hc n hn]
  subst hn
  simp [lone_at hc]
theorem aliveTo_le (t : Tab) : t.alive.length ≤ 16 := t.aliveTo_length 16
end Go.Proofs.Ytlihiiaabfkhaaa
