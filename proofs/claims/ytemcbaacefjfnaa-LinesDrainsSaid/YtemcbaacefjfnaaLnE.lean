/- Pop of the queue; heap.Push, heap.Pop; put, take. -/
import Derived.Test.YtemcbaacefjfnaaLnD
set_option linter.unusedVariables false
set_option linter.unusedSimpArgs false
namespace Go.Proofs.Ytemcbaacefjfnaa
open Go.RowKit Go.Proofs.YtemcbaacefjfnaaW.PrintWords Go.Proofs.YtemcbaacefjfnaaW.PrintLast

abbrev Wt.agg (x : Wt) : Value := .agg #[.int .i64 x.src, .int .i64 x.dst, .string x.txt, .int .i64 x.due, .int .i64 x.num]

theorem QW.less_len {w : World} {q g cap n : Nat} {xs : List Wt} (h : QW w q g cap xs) (hn : xs.length ≤ 1000000) (hn' : n = xs.length) : n ≤ 1000000 := by omega

theorem QW.pop {w w' : World} {q g cap : Nat} {ys : List Wt} {x : Wt} (h : QW w q g cap (ys ++ [x])) (hg : w'.heap[g]? = w.heap[g]?) (hq : Blk w' q #[.slice (some ⟨g, 0, none⟩) ys.length cap] 65) : QS w' q (some g) ys := by
  obtain ⟨cur, h1, h2, h3, h4, h5⟩ := h.row
  have hl : (ys ++ [x]).length = ys.length + 1 := by simp
  rw [hl] at h2 h5
  have hf := h.few
  rw [hl] at hf
  refine QW.qs (g := g) (cap := cap) ⟨h.ne, by omega, hq, cur, hg.trans h1, by omega, h3, h4, ?_⟩
  have e : (cur.toList.take ((ys.length + 1) * 5)).take (ys.length * 5) = (flat (ys ++ [x])).take (ys.length * 5) := by rw [h5]
  rw [List.take_take, Nat.min_eq_left (by omega), flat_take, List.take_left] at e
  exact e

set_option maxRecDepth 100000 in
set_option maxHeartbeats 2000000 in
theorem pop_any (q g cap : Nat) (ys : List Wt) (x : Wt) (w0 : World) (hW : QW w0 q g cap (ys ++ [x])) :
    Calls Try.prog 52 #[.pointer (some ⟨q, 0, none⟩)] w0 fun e w' => e = .returned (.iface 72 x.agg) ∧ QS w' q (some g) ys ∧ Touch w0 w' (fun k => k = q ∨ some g = some k) := by
  have H0 := Lib.hid hW
  have hC := Lib.hid hW.cell
  have hl : (ys ++ [x]).length = ys.length + 1 := by simp
  have hf := hW.few
  rw [hl] at hf
  have hx : ∀ k, k < 5 → w0.cell? ⟨g, ys.length * 5 + k, none⟩ = x.cells[k]? := by
    intro k hk
    rw [hW.row.cell ys.length k (by rw [hl]; omega) hk]
    simp
  have c := Lib.hid hx
  clear hx hW
  have cq : w0.cell? ⟨q, 0, none⟩ = some (.slice (some ⟨g, 0, none⟩) (ys.length + 1) cap) := by rw [← hl]; exact hC.out.cell 0
  have fq : w0.frozen? ⟨q, 0, none⟩ = false := hC.out.frozen 0
  have c0 : w0.cell? ⟨g, ys.length * 5, none⟩ = some (.int .i64 x.src) := c.out 0 (by decide)
  have c1 : w0.cell? ⟨g, ys.length * 5 + 1, none⟩ = some (.int .i64 x.dst) := c.out 1 (by decide)
  have c2 : w0.cell? ⟨g, ys.length * 5 + 2, none⟩ = some (.string x.txt) := c.out 2 (by decide)
  have c3 : w0.cell? ⟨g, ys.length * 5 + 3, none⟩ = some (.int .i64 x.due) := c.out 3 (by decide)
  have c4 : w0.cell? ⟨g, ys.length * 5 + 4, none⟩ = some (.int .i64 x.num) := c.out 4 (by decide)
  have hC1 := hC.out
  rw [hl] at hC1
  have B2 : Blk (w0.alloc (.cells #[.int .i64 x.src, .int .i64 x.dst, .string x.txt, .int .i64 x.due, .int .i64 x.num] 72)) w0.heap.size #[.int .i64 x.src, .int .i64 x.dst, .string x.txt, .int .i64 x.due, .int .i64 x.num] 72 := Blk.new _ _ _ rfl
  have C2 : Blk (w0.alloc (.cells #[.int .i64 x.src, .int .i64 x.dst, .string x.txt, .int .i64 x.due, .int .i64 x.num] 72)) q _ 65 := hC1.alloc _
  have cq2 := C2.cell 0
  have fq2 := C2.frozen 0
  have T1 := Touch.alloc w0 (.cells #[.int .i64 x.src, .int .i64 x.dst, .string x.txt, .int .i64 x.due, .int .i64 x.num] 72) (fun k => k = q ∨ some g = some k)
  have B3 := B2.far (g' := q) (fun e => by have := hC1.lt; omega) 0 (.slice (some ⟨g, 0, none⟩) ys.length cap)
  have C3 := C2.put 0 (.slice (some ⟨g, 0, none⟩) ys.length cap) rfl
  have T2 := T1.trans (Touch.setCell _ q 0 (.slice (some ⟨g, 0, none⟩) ys.length cap) _ (.inl rfl))
  have hg : ((w0.alloc (.cells #[.int .i64 x.src, .int .i64 x.dst, .string x.txt, .int .i64 x.due, .int .i64 x.num] 72)).setCell ⟨q, 0, none⟩ (.slice (some ⟨g, 0, none⟩) ys.length cap)).heap[g]? = w0.heap[g]? := by
    have hlt := H0.out.row.lt
    rw [Below.heap_setCell _ ⟨q, 0, none⟩ _ g H0.out.ne]
    exact Below.heap_alloc w0 _ g hlt
  have R := Lib.hid (And.intro (H0.out.pop hg C3) T2)
  have hcap : ys.length ≤ cap := by obtain ⟨_, _, h, _⟩ := H0.out.row; rw [hl] at h; omega
  have d0 := B3.cell 0
  have d1 := B3.cell 1
  have d2 := B3.cell 2
  have d3 := B3.cell 3
  have d4 := B3.cell 4
  clear hl hC1 B2 C2 T1 B3 C3 T2 hg hC c H0
  simp only [List.getElem?_toArray, List.getElem?_cons_zero, List.getElem?_cons_succ] at cq2 d0 d1 d2 d3 d4
  go_enter Try.func52, Try.ntmps52
  go_wp2
  go_ret
  exact ⟨rfl, R.out⟩

/-- the queue in block q holds the copies m, in some order; its row is block s -/
def QH (w : World) (q : Nat) (s : Option Nat) (m : List Wt) : Prop := ∃ ys, QS w q s ys ∧ HeapN ys ys.length ∧ ys.Perm m
theorem QH.touch {w w' : World} {q : Nat} {s : Option Nat} {m : List Wt} {t : Nat → Prop} (h : QH w q s m) (k : Touch w w' t) (h1 : ¬ t q) (h2 : ∀ g, s = some g → ¬ t g) : QH w' q s m := by
  obtain ⟨ys, a, b, c⟩ := h
  exact ⟨ys, a.touch k h1 h2, b, c⟩
theorem QH.lt {w : World} {q : Nat} {s : Option Nat} {m : List Wt} (h : QH w q s m) : q < w.heap.size ∧ ∀ g, s = some g → g < w.heap.size := by
  obtain ⟨ys, a, b, c⟩ := h
  exact a.lt
theorem Touch.qs {a b c : World} {q : Nat} {s s1 : Option Nat} (h : Touch a b (fun k => k = q ∨ s = some k)) (hf : Fresh a s s1) (k : Touch b c (fun k => k = q ∨ s1 = some k)) : Touch a c (fun k => k = q ∨ s = some k) := by
  refine h.then k ?_
  rintro i hi (e | e)
  · exact .inl e
  · rcases hf with e1 | ⟨g, e1, e2⟩
    · exact .inr (e1 ▸ e)
    · rw [e1] at e; cases e; omega

set_option maxRecDepth 100000 in
set_option maxHeartbeats 2000000 in
theorem heappush_any (q : Nat) (s : Option Nat) (m : List Wt) (x : Wt) (w0 : World) (hQ : QH w0 q s m) (hf : m.length < 1000000) :
    Calls Try.prog 44 #[hq q, .iface 72 x.agg] w0 fun e w' => e = .returned (.tuple #[]) ∧ ∃ s', QH w' q s' (x :: m) ∧ Fresh w0 s s' ∧ Touch w0 w' (fun k => k = q ∨ s = some k) := by
  obtain ⟨xs, hX, hH, hP⟩ := hQ
  rw [← hP.length_eq] at hf
  have X := Lib.hid hX
  have H := Lib.hid hH
  have P := Lib.hid hP
  clear hX hH hP
  have hm := m_push q w0
  go_enter Try.func44, Try.ntmps44
  go_wp2_with fail
  refine (push_any q s xs x w0 X.out hf).mono ?_
  rintro e w1 ⟨rfl, s1, a1, a2, a3⟩
  clear hm
  obtain ⟨g, cap, rfl, hW⟩ := a1.qw (by simp)
  have W := Lib.hid hW
  have F := Lib.hid a2
  have T := Lib.hid a3
  have hm := hW.mlen
  clear hW a1 a2 a3
  have hl : (xs ++ [x]).length = xs.length + 1 := by simp
  rw [hl] at hm
  go_wp2_with fail
  refine (len_any (some ⟨g, 0, none⟩) (xs.length + 1) cap w1).mono ?_
  rintro e w2 ⟨rfl, rfl⟩
  clear hm
  go_wp2_with fail
  refine (up_any q g cap xs.length (xs ++ [x]) w1 W.out (by rw [hl]; exact up_begin H.out)).mono ?_
  rintro e w2 ⟨rfl, ys, b1, b2, b3, b4⟩
  have R := Lib.hid (And.intro (And.intro b1.qs (And.intro b3 b2)) b4)
  clear b1 b2 b3 b4
  go_wp2
  go_end0
  obtain ⟨⟨b1, b3, b2⟩, b4⟩ := R.out
  exact ⟨rfl, some g, ⟨ys, b1, b3, b2.trans ((List.perm_append_singleton x xs).trans (P.out.cons x))⟩, F.out, T.out.qs F.out ((Touch.of_grownBy b4).weaken (fun _ _ e => .inr e))⟩

end Go.Proofs.Ytemcbaacefjfnaa
