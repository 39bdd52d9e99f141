/- Lines whose blocks lie from B on: New, Send, Next; told, gives. -/
import Derived.Test.YtemcbaacefjfnaaLnK
set_option linter.unusedVariables false
set_option linter.unusedSimpArgs false
namespace Go.Proofs.Ytemcbaacefjfnaa
open Go.RowKit Go.Proofs.YtemcbaacefjfnaaW.PrintWords Go.Proofs.YtemcbaacefjfnaaW.PrintLast

/-- lines none of whose blocks is one of A -/
def LW (w : World) (A : Nat → Prop) (l : Nat) (n : Int) (sent : Nat) (scr : List Tb) (m : List Wt) : Prop :=
  Good m sent ∧ ∃ q s vs, LH w l q s n sent vs scr m ∧ ¬ A l ∧ ¬ A q ∧ (∀ g, s = some g → ¬ A g) ∧ (∀ g, vs.ownBlock = some g → ¬ A g)
theorem LW.touch {w w' : World} {A : Nat → Prop} {l sent : Nat} {n : Int} {scr : List Tb} {m : List Wt} {t : Nat → Prop} (h : LW w A l n sent scr m) (k : Touch w w' t) (ht : ∀ i, ¬ A i → i < w.heap.size → ¬ t i) : LW w' A l n sent scr m := by
  obtain ⟨hg, q, s, vs, hL, h1, h2, h3, h4⟩ := h
  have hl := hL.lt
  exact ⟨hg, q, s, vs, hL.touch k (ht _ h1 hl.1) (ht _ h2 hl.2.1) (fun g e => ht _ (h3 g e) (hl.2.2.1 g e)) (fun g e => ht _ (h4 g e) (hl.2.2.2 g e)), h1, h2, h3, h4⟩
theorem LW.quiet {w w' : World} {A : Nat → Prop} {l sent : Nat} {n : Int} {scr : List Tb} {m : List Wt} (h : LW w A l n sent scr m) (k : Below w.heap.size w w') : LW w' A l n sent scr m :=
  h.touch (Touch.of_below (s := fun _ => False) k) (fun _ _ _ => id)
/-- other blocks are none of theirs either: those of A', if each is one of A or not yet there -/
theorem LW.mono {w : World} {A A' : Nat → Prop} {l sent : Nat} {n : Int} {scr : List Tb} {m : List Wt} (h : LW w A l n sent scr m) (hA : ∀ i, i < w.heap.size → A' i → A i) : LW w A' l n sent scr m := by
  obtain ⟨hg, q, s, vs, hL, h1, h2, h3, h4⟩ := h
  have hl := hL.lt
  exact ⟨hg, q, s, vs, hL, fun e => h1 (hA _ hl.1 e), fun e => h2 (hA _ hl.2.1 e), fun g e e2 => h3 g e (hA _ (hl.2.2.1 g e) e2), fun g e e2 => h4 g e (hA _ (hl.2.2.2 g e) e2)⟩

theorem lw_sra (n : Int) (vs : Value) (scr : List Tb) (w0 : World) (hS : SRA w0 vs scr) (hf : scr.length ≤ 1000) :
    Calls Try.prog 11 #[.int .i64 n, vs] w0 fun e w' => ∃ l, e = .returned (.pointer (some ⟨l, 0, none⟩)) ∧ LW w' (fun i => i < w0.heap.size) l n 0 scr [] ∧ Below w0.heap.size w0 w' := by
  refine (new_sra n vs scr w0 hS hf).mono ?_
  rintro e w' ⟨l, q, s, v', rfl, h1, h2, h3, h4, h5, h6⟩
  exact ⟨l, rfl, ⟨Good.nil 0, q, s, v', h1, by omega, by omega, fun g e => by have := h5 g e; omega, fun g e => by have := h6 g e; omega⟩, h2⟩

theorem lw_new (n : Int) (vs : Value) (scr : List Tb) (w0 : World) (hS : SR w0 0 vs scr) (hf : scr.length ≤ 1000) :
    Calls Try.prog 11 #[.int .i64 n, vs] w0 fun e w' => ∃ l, e = .returned (.pointer (some ⟨l, 0, none⟩)) ∧ LW w' (fun i => i < w0.heap.size) l n 0 scr [] ∧ Below w0.heap.size w0 w' := lw_sra n vs scr w0 hS.sra hf

theorem lw_send (A : Nat → Prop) (l sent : Nat) (n : Int) (scr : List Tb) (m : List Wt) (due a b : Int) (txt : ByteArray) (w0 : World) (hL : LW w0 A l n sent scr m) (hs : sent < 100000) (hm : m.length < 900000) (hf : scr.length ≤ 1000) (hB : ∀ i, A i → i < w0.heap.size) :
    Calls Try.prog 15 #[.pointer (some ⟨l, 0, none⟩), .int .i64 due, .agg #[.int .i64 a, .int .i64 b, .string txt]] w0 fun e w' => e = .returned (.tuple #[]) ∧ LW w' A l n (sent + 1) scr (m ++ sendL n sent scr due a b txt) ∧ Touch w0 w' (fun k => ¬ A k) := by
  obtain ⟨hg, q, s, vs, hL, h1, h2, h3, h4⟩ := hL
  refine (send_any l q sent s n vs scr m due a b txt w0 hL hs hm hf).mono ?_
  rintro e w' ⟨rfl, s', k1, k2, k3⟩
  refine ⟨rfl, ⟨hg.send n scr due a b txt, q, s', vs, k1, h1, h2, ?_, h4⟩, k3.weaken ?_⟩
  · intro g hgs hA
    rcases k2 with e | ⟨g', e, e2⟩
    · exact h3 g (e ▸ hgs) hA
    · rw [e] at hgs; cases hgs; have := hB _ hA; omega
  · rintro i hi (rfl | rfl | e)
    · exact h1
    · exact h2
    · exact h3 _ e

theorem lw_none (A : Nat → Prop) (l sent : Nat) (n : Int) (scr : List Tb) (w0 : World) (hL : LW w0 A l n sent scr []) :
    Calls Try.prog 20 #[.pointer (some ⟨l, 0, none⟩)] w0 fun e w' => e = .returned (.tuple #[.agg #[.int .i64 0, .int .i64 0, .string ⟨#[]⟩], .int .i64 0, .bool false]) ∧ LW w' A l n sent scr [] ∧ Below w0.heap.size w0 w' := by
  have h0 := hL
  obtain ⟨hg, q, s, vs, hL, h1, h2, h3, h4⟩ := hL
  refine (next_none l q sent s n vs scr w0 hL).mono ?_
  rintro e w' ⟨rfl, k⟩
  exact ⟨rfl, h0.quiet k, k⟩

theorem lw_next (A : Nat → Prop) (l sent : Nat) (n : Int) (scr : List Tb) (m : List Wt) (w0 : World) (hL : LW w0 A l n sent scr m) (h0 : m ≠ []) :
    Calls Try.prog 20 #[.pointer (some ⟨l, 0, none⟩)] w0 fun e w' => e = .returned (.tuple #[.agg #[.int .i64 (best m).src, .int .i64 (best m).dst, .string (best m).txt], .int .i64 (best m).due, .bool true]) ∧ LW w' A l n sent scr (m.erase (best m)) ∧ Touch w0 w' (fun k => ¬ A k) := by
  obtain ⟨hg, q, s, vs, hL, h1, h2, h3, h4⟩ := hL
  refine (next_best l q sent s n vs scr m w0 hL hg h0).mono ?_
  rintro e w' ⟨rfl, k1, k2⟩
  refine ⟨rfl, ⟨hg.erase _, q, s, vs, k1, h1, h2, h3, h4⟩, k2.weaken ?_⟩
  rintro i hi (rfl | e)
  · exact h2
  · exact h3 _ e

set_option maxHeartbeats 1000000 in
theorem told_any (txt : ByteArray) (w0 : World) :
    Calls Try.prog 18 #[.string txt] w0 fun e w' => e = .returned (.agg #[.int .i64 0, .int .i64 1, .string txt]) ∧ Below w0.heap.size w0 w' := by
  have B := Lib.hid (Blk.new w0 #[.int .i64 0, .int .i64 1, .string txt] 31 rfl)
  go_enter Try.func18, Try.ntmps18
  go_wp2
  refine bodyPost_ret (res_c rfl _ _ w0.heap.size 31 #[.int .i64 0, .int .i64 1, .string txt] _ rfl B.out rfl Try.underlying31 (by kernel_rfl)) rfl ?_
  exact ⟨rfl, balloc (Below.refl _ _) _⟩

set_option maxHeartbeats 2000000 in
theorem gives_yes (A : Nat → Prop) (l sent : Nat) (n : Int) (scr : List Tb) (m : List Wt) (txt : ByteArray) (due : Int) (w0 : World) (hL : LW w0 A l n sent scr m) (h0 : m ≠ []) (hx : (best m).txt = txt) (hd : (best m).due = due) :
    Calls Try.prog 21 #[.pointer (some ⟨l, 0, none⟩), .string txt, .int .i64 due] w0 fun e w' => e = .returned (.bool true) ∧ LW w' A l n sent scr (m.erase (best m)) ∧ Touch w0 w' (fun k => ¬ A k) := by
  have H := Lib.hid (And.intro hL h0)
  clear hL h0
  go_enter Try.func21, Try.ntmps21
  go_wp2_with fail
  refine (lw_next A l sent n scr m w0 H.out.1 H.out.2).mono ?_
  rintro e w1 ⟨rfl, a1, a2⟩
  rw [hx, hd]
  have C := Blk.new w1 #[.int .i64 (best m).src, .int .i64 (best m).dst, .string txt] 31 rfl
  have A1 := Lib.hid (a1.quiet (balloc (Below.refl _ w1) (.cells #[.int .i64 (best m).src, .int .i64 (best m).dst, .string txt] 31)))
  have A2 := Lib.hid (a2.trans (Touch.alloc w1 (.cells #[.int .i64 (best m).src, .int .i64 (best m).dst, .string txt] 31) _))
  clear a1 a2 hx hd C
  go_wp2
  go_ret
  exact ⟨rfl, A1.out, A2.out⟩

end Go.Proofs.Ytemcbaacefjfnaa
