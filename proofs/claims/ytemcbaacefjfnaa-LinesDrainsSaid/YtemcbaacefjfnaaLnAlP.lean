/- LinesAlone, in plain Lean: what waits is taken by time and number. -/
import Derived.Test.YtemcbaacefjfnaaLnK
set_option linter.unusedVariables false
namespace Go.Proofs.Ytemcbaacefjfnaa

def alM (n : Nat) (f : Nat → Int) (tx : Nat → ByteArray) : List Wt := (List.range n).map fun k => ⟨0, 1, tx k, f k, k⟩
def alP (t : Int) (k : Nat) (z : Wt) : Bool := decide (t < z.due ∨ (z.due = t ∧ (k : Int) ≤ z.num))
def alF (n : Nat) (f : Nat → Int) (tx : Nat → ByteArray) (t : Int) (k : Nat) : List Wt := (alM n f tx).filter (alP t k)

variable {n : Nat} {f : Nat → Int} {tx : Nat → ByteArray}
theorem alM_mem {z : Wt} : z ∈ alM n f tx ↔ ∃ k, k < n ∧ z = ⟨0, 1, tx k, f k, k⟩ := by
  simp only [alM, List.mem_map, List.mem_range]
  constructor <;> rintro ⟨k, h, e⟩ <;> exact ⟨k, h, e.symm⟩
theorem alM_apart : Apart (alM n f tx) := by
  unfold Apart alM
  rw [List.pairwise_map]
  refine List.Pairwise.imp ?_ (List.nodup_range (n := n))
  intro i j hij h
  exact hij (by have := h.2; simp only at this; omega)
theorem alF_start (hf : ∀ k, 0 ≤ f k) : alF n f tx 0 0 = alM n f tx := by
  unfold alF
  rw [List.filter_eq_self]
  intro z hz
  obtain ⟨k, hk, rfl⟩ := alM_mem.1 hz
  have := hf k
  simp only [alP, decide_eq_true_iff]
  omega
theorem alF_no {t : Int} {k : Nat} (h : f k ≠ t) : alF n f tx t (k + 1) = alF n f tx t k := by
  unfold alF
  apply List.filter_congr
  intro z hz
  obtain ⟨j, hj, rfl⟩ := alM_mem.1 hz
  simp only [alP, decide_eq_decide]
  by_cases e : j = k
  · subst e; omega
  · omega
theorem alF_row {t : Int} : alF n f tx t n = alF n f tx (t + 1) 0 := by
  unfold alF
  apply List.filter_congr
  intro z hz
  obtain ⟨j, hj, rfl⟩ := alM_mem.1 hz
  simp only [alP, decide_eq_decide]
  omega
theorem alF_end (hf : ∀ k, f k < 5) : alF n f tx 5 0 = [] := by
  unfold alF
  rw [List.filter_eq_nil_iff]
  intro z hz
  obtain ⟨k, hk, rfl⟩ := alM_mem.1 hz
  have := hf k
  simp only [alP, decide_eq_true_iff]
  omega
theorem alF_yes {t : Int} {k : Nat} (hk : k < n) (h : f k = t) : alF n f tx t k ≠ [] ∧ best (alF n f tx t k) = ⟨0, 1, tx k, f k, k⟩ ∧ (alF n f tx t k).erase ⟨0, 1, tx k, f k, k⟩ = alF n f tx t (k + 1) := by
  have hA : Apart (alF n f tx t k) := alM_apart.sublist List.filter_sublist
  have hm : (⟨0, 1, tx k, f k, k⟩ : Wt) ∈ alF n f tx t k := by
    refine List.mem_filter.2 ⟨alM_mem.2 ⟨k, hk, rfl⟩, ?_⟩
    simp only [alP, decide_eq_true_iff]
    omega
  have h0 : alF n f tx t k ≠ [] := fun e => by rw [e] at hm; cases hm
  refine ⟨h0, ?_, ?_⟩
  · have hb := best_mem h0
    have h1 := best_le _ hm
    obtain ⟨hb1, hb2⟩ := List.mem_filter.1 hb
    simp only [alP, decide_eq_true_iff] at hb2
    rw [leW_iff] at h1
    simp only at h1
    exact hA.eq hb hm (by simp only; omega) (by simp only; omega)
  · have hnd : (alF n f tx t k).Nodup := List.Pairwise.imp (fun h e => h (by rw [e]; exact ⟨rfl, rfl⟩)) hA
    rw [hnd.erase_eq_filter]
    unfold alF
    rw [List.filter_filter]
    apply List.filter_congr
    intro z hz
    obtain ⟨j, hj, rfl⟩ := alM_mem.1 hz
    by_cases e : j = k
    · subst e
      simp [alP]
      omega
    · have hne : ((⟨0, 1, tx j, f j, j⟩ : Wt) != ⟨0, 1, tx k, f k, k⟩) = true := by
        simp only [bne_iff_ne, ne_eq, Wt.mk.injEq]
        omega
      rw [hne, Bool.true_and]
      simp only [alP, decide_eq_decide]
      omega

end Go.Proofs.Ytemcbaacefjfnaa
