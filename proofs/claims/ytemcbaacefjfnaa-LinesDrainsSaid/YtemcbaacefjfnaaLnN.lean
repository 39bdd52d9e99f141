/- Two Lines at once, none of whose blocks is one of A or of the other's. -/
import Derived.Test.YtemcbaacefjfnaaLnQ
set_option linter.unusedVariables false
set_option linter.unusedSimpArgs false
namespace Go.Proofs.Ytemcbaacefjfnaa
open Go.RowKit Go.Proofs.YtemcbaacefjfnaaW.PrintWords Go.Proofs.YtemcbaacefjfnaaW.PrintLast

def own4 (l q : Nat) (s : Option Nat) (vs : Value) (i : Nat) : Prop := i = l ∨ i = q ∨ s = some i ∨ vs.ownBlock = some i
theorem LH.touch4 {w w' : World} {l q sent : Nat} {s : Option Nat} {n : Int} {vs : Value} {scr : List Tb} {m : List Wt} {t : Nat → Prop} (h : LH w l q s n sent vs scr m) (k : Touch w w' t) (ht : ∀ i, own4 l q s vs i → ¬ t i) : LH w' l q s n sent vs scr m :=
  h.touch k (ht _ (.inl rfl)) (ht _ (.inr (.inl rfl))) (fun g e => ht _ (.inr (.inr (.inl e)))) (fun g e => ht _ (.inr (.inr (.inr e))))
theorem LH.lt4 {w : World} {l q sent : Nat} {s : Option Nat} {n : Int} {vs : Value} {scr : List Tb} {m : List Wt} (h : LH w l q s n sent vs scr m) {i : Nat} (hi : own4 l q s vs i) : i < w.heap.size := by
  obtain ⟨h1, h2, h3, h4⟩ := h.lt
  rcases hi with rfl | rfl | e | e
  · exact h1
  · exact h2
  · exact h3 _ e
  · exact h4 _ e

def LP (w : World) (A : Nat → Prop) (l1 : Nat) (n1 : Int) (k1 : Nat) (c1 : List Tb) (m1 : List Wt) (l2 : Nat) (n2 : Int) (k2 : Nat) (c2 : List Tb) (m2 : List Wt) : Prop :=
  Good m1 k1 ∧ Good m2 k2 ∧ ∃ q1 s1 v1 q2 s2 v2, LH w l1 q1 s1 n1 k1 v1 c1 m1 ∧ LH w l2 q2 s2 n2 k2 v2 c2 m2 ∧ (∀ i, own4 l1 q1 s1 v1 i → ¬ A i ∧ ¬ own4 l2 q2 s2 v2 i) ∧ (∀ i, own4 l2 q2 s2 v2 i → ¬ A i)

section
variable {w w' : World} {A A' : Nat → Prop} {l1 l2 k1 k2 : Nat} {n1 n2 : Int} {c1 c2 : List Tb} {m1 m2 : List Wt} {t : Nat → Prop}
theorem LP.swap (h : LP w A l1 n1 k1 c1 m1 l2 n2 k2 c2 m2) : LP w A l2 n2 k2 c2 m2 l1 n1 k1 c1 m1 := by
  obtain ⟨g1, g2, q1, s1, v1, q2, s2, v2, h1, h2, d1, d2⟩ := h
  exact ⟨g2, g1, q2, s2, v2, q1, s1, v1, h2, h1, fun i hi => ⟨d2 i hi, fun h => (d1 i h).2 hi⟩, fun i hi => (d1 i hi).1⟩
theorem LP.touch (h : LP w A l1 n1 k1 c1 m1 l2 n2 k2 c2 m2) (k : Touch w w' t) (ht : ∀ i, ¬ A i → i < w.heap.size → ¬ t i) : LP w' A l1 n1 k1 c1 m1 l2 n2 k2 c2 m2 := by
  obtain ⟨g1, g2, q1, s1, v1, q2, s2, v2, h1, h2, d1, d2⟩ := h
  exact ⟨g1, g2, q1, s1, v1, q2, s2, v2, h1.touch4 k (fun i hi => ht i (d1 i hi).1 (h1.lt4 hi)), h2.touch4 k (fun i hi => ht i (d2 i hi) (h2.lt4 hi)), d1, d2⟩
theorem LP.quiet (h : LP w A l1 n1 k1 c1 m1 l2 n2 k2 c2 m2) (k : Below w.heap.size w w') : LP w' A l1 n1 k1 c1 m1 l2 n2 k2 c2 m2 :=
  h.touch (Touch.of_below (s := fun _ => False) k) (fun _ _ _ => id)
theorem LP.mono (h : LP w A l1 n1 k1 c1 m1 l2 n2 k2 c2 m2) (hA : ∀ i, i < w.heap.size → A' i → A i) : LP w A' l1 n1 k1 c1 m1 l2 n2 k2 c2 m2 := by
  obtain ⟨g1, g2, q1, s1, v1, q2, s2, v2, h1, h2, d1, d2⟩ := h
  exact ⟨g1, g2, q1, s1, v1, q2, s2, v2, h1, h2, fun i hi => ⟨fun e => (d1 i hi).1 (hA i (h1.lt4 hi) e), (d1 i hi).2⟩, fun i hi e => d2 i hi (hA i (h2.lt4 hi) e)⟩
end

theorem lp_new (A : Nat → Prop) (l1 : Nat) (n1 : Int) (k1 : Nat) (c1 : List Tb) (m1 : List Wt) (n : Int) (vs : Value) (scr : List Tb) (w0 : World) (hL : LW w0 A l1 n1 k1 c1 m1) (hS : SRA w0 vs scr) (hf : scr.length ≤ 1000) (hB : ∀ i, A i → i < w0.heap.size) :
    Calls Try.prog 11 #[.int .i64 n, vs] w0 fun e w' => ∃ l2, e = .returned (.pointer (some ⟨l2, 0, none⟩)) ∧ LP w' A l1 n1 k1 c1 m1 l2 n 0 scr [] ∧ Below w0.heap.size w0 w' := by
  obtain ⟨g1, q1, s1, v1, h1, a1, a2, a3, a4⟩ := hL
  refine (new_sra n vs scr w0 hS hf).mono ?_
  rintro e w' ⟨l, q, s, v', rfl, b1, b2, b3, b4, b5, b6⟩
  have hge : ∀ i, own4 l q s v' i → w0.heap.size ≤ i := by
    rintro i (rfl | rfl | e | e)
    · exact b3
    · exact b4
    · exact b5 _ e
    · exact b6 _ e
  refine ⟨l, rfl, ⟨g1, Good.nil 0, q1, s1, v1, q, s, v', h1.touch4 (Touch.of_below (s := fun _ => False) b2) (fun _ _ => id), b1, ?_, ?_⟩, b2⟩
  · intro i hi
    refine ⟨?_, fun h => ?_⟩
    · rcases hi with rfl | rfl | e | e
      · exact a1
      · exact a2
      · exact a3 _ e
      · exact a4 _ e
    · have := hge i h; have := h1.lt4 hi; omega
  · intro i hi h
    have := hge i hi; have := hB i h; omega

theorem lp_send (A : Nat → Prop) (l1 : Nat) (n1 : Int) (k1 : Nat) (c1 : List Tb) (m1 : List Wt) (l2 : Nat) (n2 : Int) (k2 : Nat) (c2 : List Tb) (m2 : List Wt) (due a b : Int) (txt : ByteArray) (w0 : World) (hL : LP w0 A l1 n1 k1 c1 m1 l2 n2 k2 c2 m2) (hs : k1 < 100000) (hm : m1.length < 900000) (hf : c1.length ≤ 1000) (hB : ∀ i, A i → i < w0.heap.size) :
    Calls Try.prog 15 #[.pointer (some ⟨l1, 0, none⟩), .int .i64 due, .agg #[.int .i64 a, .int .i64 b, .string txt]] w0 fun e w' => e = .returned (.tuple #[]) ∧ LP w' A l1 n1 (k1 + 1) c1 (m1 ++ sendL n1 k1 c1 due a b txt) l2 n2 k2 c2 m2 ∧ Touch w0 w' (fun k => ¬ A k) := by
  obtain ⟨g1, g2, q1, s1, v1, q2, s2, v2, h1, h2, d1, d2⟩ := hL
  refine (send_any l1 q1 k1 s1 n1 v1 c1 m1 due a b txt w0 h1 hs hm hf).mono ?_
  rintro e w' ⟨rfl, s', e1, e2, e3⟩
  refine ⟨rfl, ⟨g1.send n1 c1 due a b txt, g2, q1, s', v1, q2, s2, v2, e1, h2.touch4 e3 ?_, ?_, d2⟩, e3.weaken ?_⟩
  · rintro i hi (rfl | rfl | e)
    · exact (d1 _ (.inl rfl)).2 hi
    · exact (d1 _ (.inr (.inl rfl))).2 hi
    · exact (d1 _ (.inr (.inr (.inl e)))).2 hi
  · rintro i (rfl | rfl | e | e)
    · exact d1 _ (.inl rfl)
    · exact d1 _ (.inr (.inl rfl))
    · rcases e2 with e2 | ⟨g, e2, e4⟩
      · exact d1 _ (.inr (.inr (.inl (e2 ▸ e))))
      · rw [e] at e2; cases e2
        exact ⟨fun h => by have := hB _ h; omega, fun h => by have := h2.lt4 h; omega⟩
    · exact d1 _ (.inr (.inr (.inr e)))
  · rintro i hi (rfl | rfl | e)
    · exact (d1 _ (.inl rfl)).1
    · exact (d1 _ (.inr (.inl rfl))).1
    · exact (d1 _ (.inr (.inr (.inl e)))).1

theorem lp_none (A : Nat → Prop) (l1 : Nat) (n1 : Int) (k1 : Nat) (c1 : List Tb) (l2 : Nat) (n2 : Int) (k2 : Nat) (c2 : List Tb) (m2 : List Wt) (w0 : World) (hL : LP w0 A l1 n1 k1 c1 [] l2 n2 k2 c2 m2) :
    Calls Try.prog 20 #[.pointer (some ⟨l1, 0, none⟩)] w0 fun e w' => e = .returned (.tuple #[.agg #[.int .i64 0, .int .i64 0, .string ⟨#[]⟩], .int .i64 0, .bool false]) ∧ LP w' A l1 n1 k1 c1 [] l2 n2 k2 c2 m2 ∧ Below w0.heap.size w0 w' := by
  have h0 := hL
  obtain ⟨g1, g2, q1, s1, v1, q2, s2, v2, h1, h2, d1, d2⟩ := hL
  refine (next_none l1 q1 k1 s1 n1 v1 c1 w0 h1).mono ?_
  rintro e w' ⟨rfl, k⟩
  exact ⟨rfl, h0.quiet k, k⟩

theorem lp_next (A : Nat → Prop) (l1 : Nat) (n1 : Int) (k1 : Nat) (c1 : List Tb) (m1 : List Wt) (l2 : Nat) (n2 : Int) (k2 : Nat) (c2 : List Tb) (m2 : List Wt) (w0 : World) (hL : LP w0 A l1 n1 k1 c1 m1 l2 n2 k2 c2 m2) (h0 : m1 ≠ []) :
    Calls Try.prog 20 #[.pointer (some ⟨l1, 0, none⟩)] w0 fun e w' => e = .returned (.tuple #[.agg #[.int .i64 (best m1).src, .int .i64 (best m1).dst, .string (best m1).txt], .int .i64 (best m1).due, .bool true]) ∧ LP w' A l1 n1 k1 c1 (m1.erase (best m1)) l2 n2 k2 c2 m2 ∧ Touch w0 w' (fun k => ¬ A k) := by
  obtain ⟨g1, g2, q1, s1, v1, q2, s2, v2, h1, h2, d1, d2⟩ := hL
  refine (next_best l1 q1 k1 s1 n1 v1 c1 m1 w0 h1 g1 h0).mono ?_
  rintro e w' ⟨rfl, e1, e2⟩
  refine ⟨rfl, ⟨g1.erase _, g2, q1, s1, v1, q2, s2, v2, e1, h2.touch4 e2 ?_, d1, d2⟩, e2.weaken ?_⟩
  · rintro i hi (rfl | e)
    · exact (d1 _ (.inr (.inl rfl))).2 hi
    · exact (d1 _ (.inr (.inr (.inl e)))).2 hi
  · rintro i hi (rfl | e)
    · exact (d1 _ (.inr (.inl rfl))).1
    · exact (d1 _ (.inr (.inr (.inl e)))).1

/-! what Next answers, whether something waits or not -/
def nsrc (m : List Wt) : Int := if m.isEmpty then 0 else (best m).src
def ndst (m : List Wt) : Int := if m.isEmpty then 0 else (best m).dst
def ntxt (m : List Wt) : ByteArray := if m.isEmpty then ⟨#[]⟩ else (best m).txt
def ndue (m : List Wt) : Int := if m.isEmpty then 0 else (best m).due
def nrest (m : List Wt) : List Wt := if m.isEmpty then [] else m.erase (best m)
theorem lw_any (A : Nat → Prop) (l sent : Nat) (n : Int) (scr : List Tb) (m : List Wt) (w0 : World) (hL : LW w0 A l n sent scr m) :
    Calls Try.prog 20 #[.pointer (some ⟨l, 0, none⟩)] w0 fun e w' => e = .returned (.tuple #[.agg #[.int .i64 (nsrc m), .int .i64 (ndst m), .string (ntxt m)], .int .i64 (ndue m), .bool (!m.isEmpty)]) ∧ LW w' A l n sent scr (nrest m) ∧ Touch w0 w' (fun k => ¬ A k) := by
  cases m with
  | nil => exact (lw_none A l sent n scr w0 hL).mono fun e w' ⟨h1, h2, h3⟩ => ⟨h1, h2, Touch.of_below h3⟩
  | cons x xs => exact lw_next A l sent n scr _ w0 hL (by simp)
theorem lp_any (A : Nat → Prop) (l1 : Nat) (n1 : Int) (k1 : Nat) (c1 : List Tb) (m1 : List Wt) (l2 : Nat) (n2 : Int) (k2 : Nat) (c2 : List Tb) (m2 : List Wt) (w0 : World) (hL : LP w0 A l1 n1 k1 c1 m1 l2 n2 k2 c2 m2) :
    Calls Try.prog 20 #[.pointer (some ⟨l1, 0, none⟩)] w0 fun e w' => e = .returned (.tuple #[.agg #[.int .i64 (nsrc m1), .int .i64 (ndst m1), .string (ntxt m1)], .int .i64 (ndue m1), .bool (!m1.isEmpty)]) ∧ LP w' A l1 n1 k1 c1 (nrest m1) l2 n2 k2 c2 m2 ∧ Touch w0 w' (fun k => ¬ A k) := by
  cases m1 with
  | nil => exact (lp_none A l1 n1 k1 c1 l2 n2 k2 c2 m2 w0 hL).mono fun e w' ⟨h1, h2, h3⟩ => ⟨h1, h2, Touch.of_below h3⟩
  | cons x xs => exact lp_next A l1 n1 k1 c1 _ l2 n2 k2 c2 m2 w0 hL (by simp)

end Go.Proofs.Ytemcbaacefjfnaa
