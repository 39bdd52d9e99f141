/- LinesNodes, in plain Lean: what waits in the one is what of the other is marked. -/
import Derived.Test.YtemcbaacefjfnaaLnN
set_option linter.unusedVariables false
namespace Go.Proofs.Ytemcbaacefjfnaa

def gN (e0 e1 : Nat → Int) (z : Wt) : Wt := ⟨e0 z.num.toNat, e1 z.num.toNat, z.txt, z.due, z.num⟩
def pN (z : Wt) : Bool := z.src == 999
def inN (n : Int) (e0 e1 : Nat → Int) (k : Nat) : Bool := nodeB n (e0 k) && nodeB n (e1 k)
def xa (n : Int) (e0 e1 : Nat → Int) (k : Nat) : Int := if inN n e0 e1 k = true then 999 else 0
def xb (n : Int) (e0 e1 : Nat → Int) (k : Nat) : Int := if inN n e0 e1 k = true then 999 else 1
def mL (n : Int) (scr : List Tb) (e0 e1 : Nat → Int) (tx : Nat → ByteArray) : Nat → List Wt
  | 0 => []
  | k + 1 => mL n scr e0 e1 tx k ++ sendL n k scr 0 (e0 k) (e1 k) (tx k)
def mP (n : Int) (scr : List Tb) (e0 e1 : Nat → Int) (tx : Nat → ByteArray) : Nat → List Wt
  | 0 => []
  | k + 1 => mP n scr e0 e1 tx k ++ sendL 1000 k scr 0 (xa n e0 e1 k) (xb n e0 e1 k) (tx k)
/-- what waits in the one is what is marked in the other, with its own ends -/
def RN (e0 e1 : Nat → Int) (a b : List Wt) : Prop := a = (b.filter pN).map (gN e0 e1)

theorem sendL_len (n : Int) (sent : Nat) (scr : List Tb) (due a b : Int) (txt : ByteArray) : (sendL n sent scr due a b txt).length ≤ 9 := by
  unfold sendL
  split
  · simp
  · have hc : copiesOf (tbAt scr sent) ≤ 9 := by unfold copiesOf clampI; omega
    simpa using hc
theorem mL_len (n : Int) (scr : List Tb) (e0 e1 : Nat → Int) (tx : Nat → ByteArray) (k : Nat) : (mL n scr e0 e1 tx k).length ≤ 9 * k := by
  induction k with
  | zero => simp [mL]
  | succ k ih => have := sendL_len n k scr 0 (e0 k) (e1 k) (tx k); simp only [mL, List.length_append]; omega
theorem mP_len (n : Int) (scr : List Tb) (e0 e1 : Nat → Int) (tx : Nat → ByteArray) (k : Nat) : (mP n scr e0 e1 tx k).length ≤ 9 * k := by
  induction k with
  | zero => simp [mP]
  | succ k ih => have := sendL_len 1000 k scr 0 (xa n e0 e1 k) (xb n e0 e1 k) (tx k); simp only [mP, List.length_append]; omega
theorem RN_sent (n : Int) (scr : List Tb) (e0 e1 : Nat → Int) (tx : Nat → ByteArray) (k : Nat) : RN e0 e1 (mL n scr e0 e1 tx k) (mP n scr e0 e1 tx k) := by
  induction k with
  | zero => rfl
  | succ k ih =>
    unfold RN at *
    rw [mL, mP, List.filter_append, List.map_append, ← ih]
    congr 1
    cases hi : inN n e0 e1 k with
    | true =>
      have hn : nodeB n (e0 k) = true ∧ nodeB n (e1 k) = true := by simpa [inN] using hi
      have h9 : nodeB 1000 999 = true := rfl
      unfold sendL xa xb
      rw [hi, hn.1, hn.2]
      simp only [if_true, h9]
      by_cases hl : (tbAt scr k).lost = true
      · simp [hl]
      · simp only [hl, Bool.true_eq_false, Bool.false_eq_true, or_false, if_false]
        rw [List.filter_map, List.filter_eq_self.2 (by intro x _; rfl), List.map_map]
        apply List.map_congr_left
        intro j _
        simp [gN]
    | false =>
      have hn : nodeB n (e0 k) = false ∨ nodeB n (e1 k) = false := by
        cases h1 : nodeB n (e0 k) <;> cases h2 : nodeB n (e1 k) <;> simp_all [inN]
      have h0 : sendL n k scr 0 (e0 k) (e1 k) (tx k) = [] := by unfold sendL; rw [if_pos (.inr hn)]
      rw [h0]
      unfold xa xb
      rw [hi]
      symm
      rw [List.map_eq_nil_iff, List.filter_eq_nil_iff]
      intro z hz
      obtain ⟨j, _, rfl⟩ := sendL_mem hz
      simp [pN]
theorem mL_mem {n : Int} {scr : List Tb} {e0 e1 : Nat → Int} {tx : Nat → ByteArray} {k : Nat} {z : Wt} (h : z ∈ mL n scr e0 e1 tx k) : ∃ i, i < k ∧ z.src = e0 i ∧ z.dst = e1 i ∧ z.txt = tx i := by
  induction k with
  | zero => cases h
  | succ k ih =>
    rw [mL, List.mem_append] at h
    rcases h with h | h
    · obtain ⟨i, hi, r⟩ := ih h; exact ⟨i, by omega, r⟩
    · obtain ⟨j, _, rfl⟩ := sendL_mem h
      exact ⟨k, by omega, rfl, rfl, rfl⟩

theorem best_eq {m : List Wt} (hA : Apart m) {y : Wt} (hy : y ∈ m) (hl : ∀ z, z ∈ m → leW y z) : best m = y := by
  have h0 : m ≠ [] := by rintro rfl; cases hy
  have hb := best_mem h0
  have h1 := best_le y hy
  have h2 := hl _ hb
  rw [leW_iff] at h1 h2
  exact hA.eq hb hy (by omega) (by omega)
theorem erase_filter_yes {p : Wt → Bool} {z : Wt} (hz : p z = true) (l : List Wt) : (l.erase z).filter p = (l.filter p).erase z := by
  induction l with
  | nil => rfl
  | cons a l ih =>
    by_cases e : a = z
    · subst e
      rw [List.erase_cons_head, List.filter_cons_of_pos hz, List.erase_cons_head]
    · have e2 : (a == z) = false := by simpa using e
      rw [List.erase_cons_tail (by simpa using e)]
      by_cases ha : p a = true
      · rw [List.filter_cons_of_pos ha, List.filter_cons_of_pos ha, List.erase_cons_tail (by simpa using e), ih]
      · rw [List.filter_cons_of_neg ha, List.filter_cons_of_neg ha, ih]
theorem erase_filter_no {p : Wt → Bool} {z : Wt} (hz : ¬ p z = true) (l : List Wt) : (l.erase z).filter p = l.filter p := by
  induction l with
  | nil => rfl
  | cons a l ih =>
    by_cases e : a = z
    · subst e
      rw [List.erase_cons_head, List.filter_cons_of_neg hz]
    · rw [List.erase_cons_tail (by simpa using e)]
      by_cases ha : p a = true
      · rw [List.filter_cons_of_pos ha, List.filter_cons_of_pos ha, ih]
      · rw [List.filter_cons_of_neg ha, List.filter_cons_of_neg ha, ih]
theorem map_erase_of {g : Wt → Wt} {z : Wt} (l : List Wt) (h : ∀ a, a ∈ l → g a = g z → a = z) : (l.map g).erase (g z) = (l.erase z).map g := by
  induction l with
  | nil => rfl
  | cons a l ih =>
    by_cases e : a = z
    · subst e
      rw [List.map_cons, List.erase_cons_head, List.erase_cons_head]
    · have e2 : ¬ g a = g z := fun e2 => e (h a (by simp) e2)
      rw [List.map_cons, List.erase_cons_tail (by simpa using e2), List.erase_cons_tail (by simpa using e), List.map_cons, ih (fun b hb => h b (by simp [hb]))]

theorem RN_no {e0 e1 : Nat → Int} {a b : List Wt} (h : RN e0 e1 a b) (h9 : (best b).src ≠ 999) : RN e0 e1 a (b.erase (best b)) := by
  unfold RN at *
  rw [erase_filter_no (by simpa [pN] using h9)]
  exact h
theorem RN_yes {e0 e1 : Nat → Int} {a b : List Wt} (h : RN e0 e1 a b) (hA : Apart a) (hB : Apart b) (h0 : b ≠ []) (h9 : (best b).src = 999) : a ≠ [] ∧ best a = gN e0 e1 (best b) ∧ RN e0 e1 (a.erase (best a)) (b.erase (best b)) := by
  have hb := best_mem h0
  have hp : pN (best b) = true := by simpa [pN] using h9
  have hm : gN e0 e1 (best b) ∈ a := by
    rw [h]; exact List.mem_map.2 ⟨_, List.mem_filter.2 ⟨hb, hp⟩, rfl⟩
  have hbest : best a = gN e0 e1 (best b) := by
    refine best_eq hA hm ?_
    intro z hz
    rw [h] at hz
    obtain ⟨u, hu, rfl⟩ := List.mem_map.1 hz
    have := best_le u (List.mem_filter.1 hu).1
    rw [leW_iff] at *
    exact this
  refine ⟨(fun e => by rw [e] at hm; cases hm), hbest, ?_⟩
  rw [hbest]
  unfold RN at *
  rw [erase_filter_yes hp, ← map_erase_of _ (fun u hu e => ?_), ← h]
  have hu' := (List.mem_filter.1 hu).1
  simp only [gN, Wt.mk.injEq] at e
  exact hB.eq hu' hb e.2.2.2.1 e.2.2.2.2
theorem RN_nil {e0 e1 : Nat → Int} {a : List Wt} (h : RN e0 e1 a []) : a = [] := h

end Go.Proofs.Ytemcbaacefjfnaa
