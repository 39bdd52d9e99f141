/- What waits, in plain Lean; Next answers the least copy. -/
import Derived.Test.YtemcbaacefjfnaaLnJ
set_option linter.unusedVariables false
set_option linter.unusedSimpArgs false
namespace Go.Proofs.Ytemcbaacefjfnaa
open Go.RowKit Go.Proofs.YtemcbaacefjfnaaW.PrintWords Go.Proofs.YtemcbaacefjfnaaW.PrintLast

deriving instance DecidableEq for Wt

def bst : List Wt → Wt → Wt
  | [], x => x
  | z :: zs, x => bst zs (if lessW z x then z else x)
def best : List Wt → Wt
  | [] => default
  | x :: xs => bst xs x
def Apart (m : List Wt) : Prop := m.Pairwise fun a b => ¬ (a.due = b.due ∧ a.num = b.num)

theorem leW_of_not {a b : Wt} (h : lessW b a = false) : leW a b := h
theorem bst_mem (xs : List Wt) (x : Wt) : bst xs x = x ∨ bst xs x ∈ xs := by
  induction xs generalizing x with
  | nil => exact .inl rfl
  | cons z zs ih =>
    rw [bst]
    split
    · rcases ih z with h | h
      · rw [h]; exact .inr (by simp)
      · exact .inr (List.mem_cons_of_mem _ h)
    · rcases ih x with h | h
      · exact .inl h
      · exact .inr (List.mem_cons_of_mem _ h)
theorem bst_le (xs : List Wt) (x : Wt) : leW (bst xs x) x ∧ ∀ z, z ∈ xs → leW (bst xs x) z := by
  induction xs generalizing x with
  | nil => exact ⟨leW_refl _, by simp⟩
  | cons z zs ih =>
    rw [bst]
    split
    · rename_i h
      obtain ⟨h1, h2⟩ := ih z
      refine ⟨leW_trans h1 (leW_of_less h), ?_⟩
      intro u hu
      rcases List.mem_cons.1 hu with rfl | hu
      · exact h1
      · exact h2 u hu
    · rename_i h
      obtain ⟨h1, h2⟩ := ih x
      refine ⟨h1, ?_⟩
      intro u hu
      rcases List.mem_cons.1 hu with rfl | hu
      · exact leW_trans h1 (leW_of_not (by simpa using h))
      · exact h2 u hu
theorem best_mem {m : List Wt} (h : m ≠ []) : best m ∈ m := by
  cases m with
  | nil => exact absurd rfl h
  | cons x xs =>
    rcases bst_mem xs x with e | e
    · show bst xs x ∈ _
      rw [e]; simp
    · exact List.mem_cons_of_mem _ e
theorem best_le {m : List Wt} : ∀ z, z ∈ m → leW (best m) z := by
  cases m with
  | nil => intro z hz; cases hz
  | cons x xs =>
    intro z hz
    rcases List.mem_cons.1 hz with rfl | hz
    · exact (bst_le xs z).1
    · exact (bst_le xs x).2 z hz
theorem Apart.eq {m : List Wt} (h : Apart m) {a b : Wt} (ha : a ∈ m) (hb : b ∈ m) (h1 : a.due = b.due) (h2 : a.num = b.num) : a = b := by
  unfold Apart at h
  induction m with
  | nil => cases ha
  | cons x xs ih =>
    rw [List.pairwise_cons] at h
    rcases List.mem_cons.1 ha with rfl | ha' <;> rcases List.mem_cons.1 hb with rfl | hb'
    · rfl
    · exact absurd ⟨h1, h2⟩ (h.1 b hb')
    · exact absurd ⟨h1.symm, h2.symm⟩ (h.1 a ha')
    · exact ih h.2 ha' hb'
theorem least_best {m m' : List Wt} {y : Wt} (hA : Apart m) (hp : (y :: m').Perm m) (hy : ∀ z, z ∈ m' → leW y z) : y = best m ∧ m'.Perm (m.erase (best m)) := by
  have hm : m ≠ [] := by rintro rfl; exact absurd hp.length_eq (by simp)
  have hyM : y ∈ m := hp.subset (by simp)
  have hbM := best_mem hm
  have h1 := best_le y hyM
  have h2 : leW y (best m) := by
    rcases List.mem_cons.1 (hp.symm.subset hbM) with e | e
    · rw [← e]; exact leW_refl _
    · exact hy _ e
  rw [leW_iff] at h1 h2
  have e : y = best m := hA.eq hyM hbM (by omega) (by omega)
  refine ⟨e, ?_⟩
  subst e
  exact List.Perm.cons_inv (hp.trans (List.perm_cons_erase hyM))

/-- every copy's number has been given out, and no two copies have the same time and number -/
def Good (m : List Wt) (sent : Nat) : Prop := Apart m ∧ ∀ z, z ∈ m → z.num < sent
theorem Good.nil (k : Nat) : Good [] k := ⟨List.Pairwise.nil, fun _ h => by cases h⟩
theorem Good.erase {m : List Wt} {k : Nat} (h : Good m k) (y : Wt) : Good (m.erase y) k :=
  ⟨h.1.sublist List.erase_sublist, fun z hz => h.2 z (List.mem_of_mem_erase hz)⟩
theorem sendL_mem {n : Int} {sent : Nat} {scr : List Tb} {due a b : Int} {txt : ByteArray} {z : Wt} (h : z ∈ sendL n sent scr due a b txt) : ∃ j : Nat, j < copiesOf (tbAt scr sent) ∧ z = ⟨a, b, txt, firstOf (tbAt scr sent) due + j, sent⟩ := by
  unfold sendL at h
  split at h
  · cases h
  · rw [List.mem_map] at h
    obtain ⟨j, hj, rfl⟩ := h
    exact ⟨j, List.mem_range.1 hj, rfl⟩
theorem sendL_apart (n : Int) (sent : Nat) (scr : List Tb) (due a b : Int) (txt : ByteArray) : Apart (sendL n sent scr due a b txt) := by
  unfold sendL Apart
  split
  · exact List.Pairwise.nil
  · rw [List.pairwise_map]
    refine List.Pairwise.imp ?_ (List.nodup_range (n := copiesOf (tbAt scr sent)))
    intro i j hij h
    exact hij (by have := h.1; simp only at this; omega)
theorem Good.send {m : List Wt} {sent : Nat} (h : Good m sent) (n : Int) (scr : List Tb) (due a b : Int) (txt : ByteArray) : Good (m ++ sendL n sent scr due a b txt) (sent + 1) := by
  refine ⟨?_, ?_⟩
  · unfold Apart
    rw [List.pairwise_append]
    refine ⟨h.1, sendL_apart .., ?_⟩
    intro x hx y hy e
    have h1 := h.2 x hx
    obtain ⟨j, _, rfl⟩ := sendL_mem hy
    have := e.2
    simp only at this
    omega
  · intro z hz
    rcases List.mem_append.1 hz with hz | hz
    · have := h.2 z hz; omega
    · obtain ⟨j, _, rfl⟩ := sendL_mem hz
      simp only
      omega

theorem LH.perm {w : World} {l q sent : Nat} {s : Option Nat} {n : Int} {vs : Value} {scr : List Tb} {m m' : List Wt} (h : LH w l q s n sent vs scr m) (hp : m.Perm m') : LH w l q s n sent vs scr m' :=
  ⟨h.cell, h.row, h.que.perm hp, h.lq, h.ls, h.vl, h.vq, h.vd⟩

theorem next_best (l q sent : Nat) (s : Option Nat) (n : Int) (vs : Value) (scr : List Tb) (m : List Wt) (w0 : World) (hL : LH w0 l q s n sent vs scr m) (hG : Good m sent) (h0 : m ≠ []) :
    Calls Try.prog 20 #[.pointer (some ⟨l, 0, none⟩)] w0 fun e w' => e = .returned (.tuple #[.agg #[.int .i64 (best m).src, .int .i64 (best m).dst, .string (best m).txt], .int .i64 (best m).due, .bool true]) ∧ LH w' l q s n sent vs scr (m.erase (best m)) ∧ Touch w0 w' (fun k => k = q ∨ s = some k) := by
  refine (next_some l q sent s n vs scr m w0 hL h0).mono ?_
  rintro e w' ⟨y, m', rfl, h1, h2, h3, h4⟩
  obtain ⟨rfl, hp⟩ := least_best hG.1 h2 h3
  exact ⟨rfl, h1.perm hp, h4⟩

end Go.Proofs.Ytemcbaacefjfnaa
