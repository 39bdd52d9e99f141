/- The heap of copies, in plain Lean. -/
import Derived.Test.YtemcbaacefjfnaaLnA
set_option linter.unusedVariables false
namespace Go.Proofs.Ytemcbaacefjfnaa

instance : Inhabited Wt := ⟨⟨0, 0, ByteArray.empty, 0, 0⟩⟩
def lat (xs : List Wt) (k : Nat) : Wt := xs.getD k default
theorem lat_eq {xs : List Wt} {k : Nat} (h : k < xs.length) : xs[k] = lat xs k := by simp [lat, List.getD, List.getElem?_eq_getElem h]
def leW (a b : Wt) : Prop := lessW b a = false
theorem leW_iff {a b : Wt} : leW a b ↔ a.due < b.due ∨ (a.due = b.due ∧ a.num ≤ b.num) := by
  simp only [leW, lessW, Bool.or_eq_false_iff, Bool.and_eq_false_iff, decide_eq_false_iff_not, beq_eq_false_iff_ne]
  omega
theorem lessW_iff {a b : Wt} : lessW a b = true ↔ a.due < b.due ∨ (a.due = b.due ∧ a.num < b.num) := by
  simp only [lessW, Bool.or_eq_true, Bool.and_eq_true, decide_eq_true_iff, beq_iff_eq]
theorem leW_refl (a : Wt) : leW a a := leW_iff.2 (by omega)
theorem leW_trans {a b c : Wt} (h : leW a b) (k : leW b c) : leW a c := by rw [leW_iff] at *; omega
theorem leW_of_less {a b : Wt} (h : lessW a b = true) : leW a b := by rw [leW_iff]; rw [lessW_iff] at h; omega

def sw (xs : List Wt) (i j : Nat) : List Wt := (xs.set i (lat xs j)).set j (lat xs i)
theorem sw_length (xs : List Wt) (i j : Nat) : (sw xs i j).length = xs.length := by simp [sw]
theorem sw_at (xs : List Wt) (i j k : Nat) (hi : i < xs.length) (hj : j < xs.length) : lat (sw xs i j) k = if k = j then lat xs i else if k = i then lat xs j else lat xs k := by
  unfold sw lat
  simp only [List.getD_eq_getElem?_getD, List.getElem?_set, List.length_set]
  by_cases e : k = j
  · subst e; simp [hj]
  · by_cases e2 : k = i
    · subst e2; simp [hi, e, Ne.symm e]
    · simp [e, e2, Ne.symm e, Ne.symm e2]
theorem sw_perm (xs : List Wt) (i j : Nat) (hi : i < xs.length) (hj : j < xs.length) : (sw xs i j).Perm xs := by
  have h := Array.swap_perm (xs := xs.toArray) (i := i) (j := j) (by simpa using hi) (by simpa using hj)
  rw [Array.perm_iff_toList_perm] at h
  simpa [sw, Array.swap, lat_eq hi, lat_eq hj] using h

def HeapN (xs : List Wt) (n : Nat) : Prop := ∀ k, 0 < k → k < n → leW (lat xs ((k - 1) / 2)) (lat xs k)
def UpInv (xs : List Wt) (n j : Nat) : Prop := j < n ∧ (∀ k, 0 < k → k < n → k ≠ j → leW (lat xs ((k - 1) / 2)) (lat xs k)) ∧ (∀ c, 0 < c → c < n → (c - 1) / 2 = j → 0 < j → leW (lat xs ((j - 1) / 2)) (lat xs c))
def DownInv (xs : List Wt) (n i : Nat) : Prop := (∀ k, 0 < k → k < n → (k - 1) / 2 ≠ i → leW (lat xs ((k - 1) / 2)) (lat xs k)) ∧ (∀ c, 0 < c → c < n → (c - 1) / 2 = i → 0 < i → leW (lat xs ((i - 1) / 2)) (lat xs c))

theorem up_stop {xs : List Wt} {n j : Nat} (h : UpInv xs n j) (hs : j = 0 ∨ leW (lat xs ((j - 1) / 2)) (lat xs j)) : HeapN xs n := by
  intro k h1 h2
  by_cases e : k = j
  · subst e
    rcases hs with h0 | h0
    · omega
    · exact h0
  · exact h.2.1 k h1 h2 e
theorem up_step {xs : List Wt} {n j : Nat} (hn : n ≤ xs.length) (h : UpInv xs n j) (h0 : 0 < j) (hl : lessW (lat xs j) (lat xs ((j - 1) / 2)) = true) : UpInv (sw xs ((j - 1) / 2) j) n ((j - 1) / 2) := by
  obtain ⟨a, b, c⟩ := h
  have hp : (j - 1) / 2 < xs.length := by omega
  have hj : j < xs.length := by omega
  have hle := leW_of_less hl
  refine ⟨by omega, ?_, ?_⟩
  · intro k k0 kn kp
    rw [sw_at _ _ _ _ hp hj, sw_at _ _ _ _ hp hj]
    by_cases e1 : k = j
    · subst e1
      rw [if_neg (by omega), if_pos rfl, if_pos rfl]
      exact hle
    · rw [if_neg e1, if_neg kp]
      by_cases e2 : (k - 1) / 2 = j
      · rw [if_pos e2]
        exact c k k0 kn e2 h0
      · rw [if_neg e2]
        by_cases e3 : (k - 1) / 2 = (j - 1) / 2
        · rw [if_pos e3]
          have := b k k0 kn e1
          rw [e3] at this
          exact leW_trans hle this
        · rw [if_neg e3]
          exact b k k0 kn e1
  · intro c0 k0 kn e4 p0
    have hb := b ((j - 1) / 2) p0 (by omega) (by omega)
    rw [sw_at _ _ _ _ hp hj, sw_at _ _ _ _ hp hj, if_neg (by omega), if_neg (by omega)]
    by_cases e1 : c0 = j
    · rw [if_pos e1]; exact hb
    · rw [if_neg e1, if_neg (by omega)]
      have := b c0 k0 kn e1
      rw [e4] at this
      exact leW_trans hb this

theorem down_stop {xs : List Wt} {n i : Nat} (h : DownInv xs n i) (hs : ∀ c, 0 < c → c < n → (c - 1) / 2 = i → leW (lat xs i) (lat xs c)) : HeapN xs n := by
  intro k h1 h2
  by_cases e : (k - 1) / 2 = i
  · rw [e]; exact hs k h1 h2 e
  · exact h.1 k h1 h2 e
theorem down_step {xs : List Wt} {n i c : Nat} (hn : n ≤ xs.length) (h : DownInv xs n i) (h0 : 0 < c) (hc : c < n) (hp : (c - 1) / 2 = i) (hl : lessW (lat xs c) (lat xs i) = true)
    (hm : ∀ d, 0 < d → d < n → (d - 1) / 2 = i → leW (lat xs c) (lat xs d)) : DownInv (sw xs i c) n c := by
  obtain ⟨a, b⟩ := h
  have hi : i < xs.length := by omega
  have hcl : c < xs.length := by omega
  refine ⟨?_, ?_⟩
  · intro k k0 kn kp
    rw [sw_at _ _ _ _ hi hcl, sw_at _ _ _ _ hi hcl, if_neg kp]
    by_cases e1 : k = c
    · subst e1
      rw [if_pos rfl, if_pos hp]
      exact leW_of_less hl
    · rw [if_neg e1]
      by_cases e2 : (k - 1) / 2 = i
      · rw [if_pos e2, if_neg (by omega)]
        exact hm k k0 kn e2
      · rw [if_neg e2]
        by_cases e3 : k = i
        · subst e3
          rw [if_pos rfl]
          exact b c h0 hc hp k0
        · rw [if_neg e3]
          exact a k k0 kn e2
  · intro d d0 dn e1 _
    rw [sw_at _ _ _ _ hi hcl, sw_at _ _ _ _ hi hcl, hp, if_neg (by omega), if_pos rfl, if_neg (by omega), if_neg (by omega)]
    have := a d d0 dn (by omega)
    rw [e1] at this
    exact this

theorem heap_min {xs : List Wt} {n : Nat} (h : HeapN xs n) : ∀ k, k < n → leW (lat xs 0) (lat xs k) := by
  intro k
  induction k using Nat.strongRecOn with
  | ind k ih =>
    intro hk
    by_cases e : k = 0
    · subst e; exact leW_refl _
    · exact leW_trans (ih ((k - 1) / 2) (by omega) (by omega)) (h k (by omega) hk)

theorem lat_append_left {xs ys : List Wt} {k : Nat} (h : k < xs.length) : lat (xs ++ ys) k = lat xs k := by simp [lat, List.getD, List.getElem?_append_left h]
theorem up_begin {xs : List Wt} {x : Wt} (h : HeapN xs xs.length) : UpInv (xs ++ [x]) (xs.length + 1) xs.length := by
  refine ⟨by omega, ?_, ?_⟩
  · intro k k0 kn ke
    rw [lat_append_left (by omega), lat_append_left (by omega)]
    exact h k k0 (by omega)
  · intro c c0 cn e j0
    omega
theorem down_begin {xs : List Wt} {n : Nat} (hn : n < xs.length) (h : HeapN xs xs.length) : DownInv (sw xs 0 n) n 0 := by
  refine ⟨?_, ?_⟩
  · intro k k0 kn ke
    rw [sw_at _ _ _ _ (by omega) hn, sw_at _ _ _ _ (by omega) hn, if_neg (by omega), if_neg (by omega), if_neg (by omega), if_neg (by omega)]
    exact h k k0 (by omega)
  · intro c c0 cn e i0
    omega

end Go.Proofs.Ytemcbaacefjfnaa
