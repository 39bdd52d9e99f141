/- The queue of package lines: its memory, Len, Less, Swap. -/
import Derived.Test.YtemcbaacefjfnaaKit
import Derived.IntWalk
import Derived.Test.YtemcbaacefjfnaaWInvWords
set_option linter.unusedVariables false
set_option linter.unusedSimpArgs false
namespace Go.Proofs.Ytemcbaacefjfnaa
open Go.RowKit Go.Proofs.YtemcbaacefjfnaaW.PrintWords Go.Proofs.YtemcbaacefjfnaaW.PrintLast

/-- a copy that waits -/
structure Wt where
  src : Int
  dst : Int
  txt : ByteArray
  due : Int
  num : Int
def Wt.cells (x : Wt) : List Value := [.int .i64 x.src, .int .i64 x.dst, .string x.txt, .int .i64 x.due, .int .i64 x.num]
def flat (xs : List Wt) : List Value := xs.flatMap Wt.cells
theorem flat_length (xs : List Wt) : (flat xs).length = xs.length * 5 := by
  induction xs with
  | nil => rfl
  | cons x xs ih => simp only [flat, List.flatMap_cons, List.length_append, List.length_cons] at *; rw [ih]; simp [Wt.cells]; omega

set_option maxHeartbeats 400000 in
theorem len_any (a : Option Addr) (n c : Nat) (w : World) :
    Calls Try.prog 41 #[.slice a n c] w fun e w' => e = .returned (.int .i64 n) ∧ w = w' := by
  go_enter Try.func41, Try.ntmps41
  go_wp2
  go_ret
  exact ⟨rfl, rfl⟩

theorem m_push (g : Nat) (w : World) : (method 204 63 (.pointer (some ⟨g, 0, none⟩)) "Push").run Try.prog w = .ok (53, .pointer (some ⟨g, 0, none⟩)) w := by kernel_rfl
theorem m_pop (g : Nat) (w : World) : (method 204 63 (.pointer (some ⟨g, 0, none⟩)) "Pop").run Try.prog w = .ok (52, .pointer (some ⟨g, 0, none⟩)) w := by kernel_rfl
theorem run_wrap (P : Program) (ts : Array TypeId) (t : TypeId) (a : Addr) (x y : String) (w : World) : (Builtin.ssaWrapNilChk_ ts t #[.pointer (some a), strVal x, strVal y]).run P w = .ok (.pointer (some a)) w := rfl
theorem run_recv (g : Nat) (n : String) (v : Value) (w : World) (hc : w.cell? ⟨g, 0, none⟩ = some v) :
    (receiverAt 63 (.val (.pointer (some ⟨g, 0, none⟩))) false (some n)).run Try.prog w = .ok v w := by
  have h0 : (isAgg 65).run Try.prog w = .ok false w := by kernel_rfl
  simp [receiverAt, Place.get, run_underlying Try.underlying63, run_wrap, asAddr, loadVar, h0, hc]
theorem m_len (g : Nat) (v : Value) (w : World) (hc : w.cell? ⟨g, 0, none⟩ = some v) : (method 204 63 (.pointer (some ⟨g, 0, none⟩)) "Len").run Try.prog w = .ok (41, v) w := by
  have h1 : ((Try.prog.info? 63).bind fun i => i.methods.find? fun m => m.name == "Len").map (fun m => (m.path, m.func)) = some (#[], some (41, false)) := by kernel_rfl
  rw [Option.map_eq_some_iff] at h1
  obtain ⟨m, h2, h3⟩ := h1
  rw [Option.bind_eq_some_iff] at h2
  obtain ⟨ti, h4, h5⟩ := h2
  simp only [Prod.mk.injEq] at h3
  obtain ⟨h6, h7⟩ := h3
  have hr := fun n => run_recv g n v w hc
  show (method (203 + 1) _ _ _).run _ _ = _
  unfold method
  simp [typeInfo, h4, h5, h6, h7, follow, hr]
theorem m_less (g : Nat) (v : Value) (w : World) (hc : w.cell? ⟨g, 0, none⟩ = some v) : (method 204 63 (.pointer (some ⟨g, 0, none⟩)) "Less").run Try.prog w = .ok (48, v) w := by
  have h1 : ((Try.prog.info? 63).bind fun i => i.methods.find? fun m => m.name == "Less").map (fun m => (m.path, m.func)) = some (#[], some (48, false)) := by kernel_rfl
  rw [Option.map_eq_some_iff] at h1
  obtain ⟨m, h2, h3⟩ := h1
  rw [Option.bind_eq_some_iff] at h2
  obtain ⟨ti, h4, h5⟩ := h2
  simp only [Prod.mk.injEq] at h3
  obtain ⟨h6, h7⟩ := h3
  have hr := fun n => run_recv g n v w hc
  show (method (203 + 1) _ _ _).run _ _ = _
  unfold method
  simp [typeInfo, h4, h5, h6, h7, follow, hr]
theorem m_swap (g : Nat) (v : Value) (w : World) (hc : w.cell? ⟨g, 0, none⟩ = some v) : (method 204 63 (.pointer (some ⟨g, 0, none⟩)) "Swap").run Try.prog w = .ok (49, v) w := by
  have h1 : ((Try.prog.info? 63).bind fun i => i.methods.find? fun m => m.name == "Swap").map (fun m => (m.path, m.func)) = some (#[], some (49, false)) := by kernel_rfl
  rw [Option.map_eq_some_iff] at h1
  obtain ⟨m, h2, h3⟩ := h1
  rw [Option.bind_eq_some_iff] at h2
  obtain ⟨ti, h4, h5⟩ := h2
  simp only [Prod.mk.injEq] at h3
  obtain ⟨h6, h7⟩ := h3
  have hr := fun n => run_recv g n v w hc
  show (method (203 + 1) _ _ _).run _ _ = _
  unfold method
  simp [typeInfo, h4, h5, h6, h7, follow, hr]

def lessW (x y : Wt) : Bool := decide (x.due < y.due) || (x.due == y.due && decide (x.num < y.num))

set_option maxHeartbeats 1000000 in
theorem less_any (g c n i j : Nat) (x y : Wt) (w : World) (hi : i < n) (hj : j < n) (hn : n ≤ 1000000)
    (h1 : w.cell? ⟨g, i * 5 + 3, none⟩ = some (.int .i64 x.due)) (h2 : w.cell? ⟨g, i * 5 + 4, none⟩ = some (.int .i64 x.num)) (h3 : w.cell? ⟨g, j * 5 + 3, none⟩ = some (.int .i64 y.due)) (h4 : w.cell? ⟨g, j * 5 + 4, none⟩ = some (.int .i64 y.num)) :
    Calls Try.prog 48 #[.slice (some ⟨g, 0, none⟩) n c, .int .i64 i, .int .i64 j] w fun e w' => e = .returned (.bool (lessW x y)) ∧ ∃ m, w' = w.drewN m := by
  obtain ⟨xf, xt, xx, xa, xn⟩ := x
  obtain ⟨yf, yt, yx, ya, yn⟩ := y
  simp only at h1 h2 h3 h4
  have b1 : (0 : Int) ≤ (i : Int) := by omega
  have b2 : (i : Int) < (n : Int) := by omega
  have b3 : (0 : Int) ≤ (j : Int) := by omega
  have b4 : (j : Int) < (n : Int) := by omega
  by_cases c1 : xa < ya
  · skip
    have e : lessW ⟨xf, xt, xx, xa, xn⟩ ⟨yf, yt, yx, ya, yn⟩ = true := by simp [lessW, c1]
    rw [e]; clear e
    go_enter Try.func48, Try.ntmps48
    go_wp2
    go_quiet (fail)
    go_wp2
    go_ret
    exact ⟨rfl, _, rfl⟩
  · have d1 : decide (xa < ya) = false := by simpa using c1
    by_cases c2 : xa = ya
    · subst c2
      have d2 : (xa == xa) = true := by simp
      by_cases c3 : xn < yn
      · skip
        have e : lessW ⟨xf, xt, xx, xa, xn⟩ ⟨yf, yt, yx, xa, yn⟩ = true := by simp [lessW, c3]
        rw [e]; clear e
        go_enter Try.func48, Try.ntmps48
        go_wp2
        go_quiet (fail)
        go_wp2
        go_ret
        exact ⟨rfl, _, rfl⟩
      · have d3 : decide (xn < yn) = false := by simpa using c3
        have e : lessW ⟨xf, xt, xx, xa, xn⟩ ⟨yf, yt, yx, xa, yn⟩ = false := by simp [lessW]; omega
        rw [e]; clear e
        go_enter Try.func48, Try.ntmps48
        go_wp2
        go_quiet (fail)
        go_wp2
        go_ret
        exact ⟨rfl, _, rfl⟩
    · have d2 : (xa == ya) = false := beq_eq_false_iff_ne.2 c2
      have e : lessW ⟨xf, xt, xx, xa, xn⟩ ⟨yf, yt, yx, ya, yn⟩ = false := by simp [lessW]; omega
      rw [e]; clear e
      clear c2
      go_enter Try.func48, Try.ntmps48
      go_wp2
      go_quiet (fail)
      go_wp2
      go_ret
      exact ⟨rfl, _, rfl⟩

theorem flat_take (xs : List Wt) (i : Nat) : (flat xs).take (i * 5) = flat (xs.take i) := by
  induction xs generalizing i with
  | nil => simp [flat]
  | cons x xs ih =>
    cases i with
    | zero => simp [flat]
    | succ i =>
      have e : (i + 1) * 5 = i * 5 + 5 := by omega
      rw [e]
      simp only [flat, List.flatMap_cons, List.take_succ_cons] at ih ⊢
      rw [← ih, List.take_append]
      have l : x.cells.length = 5 := rfl
      rw [l, show i * 5 + 5 - 5 = i * 5 by omega, List.take_of_length_le (by omega)]
theorem flat_drop (xs : List Wt) (i : Nat) : (flat xs).drop (i * 5) = flat (xs.drop i) := by
  induction xs generalizing i with
  | nil => simp [flat]
  | cons x xs ih =>
    cases i with
    | zero => simp [flat]
    | succ i =>
      have e : (i + 1) * 5 = i * 5 + 5 := by omega
      rw [e]
      simp only [flat, List.flatMap_cons, List.drop_succ_cons] at ih ⊢
      rw [← ih, List.drop_append]
      have l : x.cells.length = 5 := rfl
      rw [l, show i * 5 + 5 - 5 = i * 5 by omega, List.drop_eq_nil_of_le (by omega), List.nil_append]
theorem flat_get (xs : List Wt) (i k : Nat) (hi : i < xs.length) (hk : k < 5) : (flat xs)[i * 5 + k]? = xs[i].cells[k]? := by
  have h := flat_drop xs i
  have e : (flat xs)[i * 5 + k]? = ((flat xs).drop (i * 5))[k]? := by rw [List.getElem?_drop]
  rw [e, h, List.drop_eq_getElem_cons hi]
  simp only [flat, List.flatMap_cons]
  rw [List.getElem?_append_left (by simpa [Wt.cells] using hk)]

/-- block g is a row that begins with the copies xs -/
def QB (w : World) (g cap : Nat) (xs : List Wt) : Prop := ∃ cur, Blk w g cur 72 ∧ xs.length ≤ cap ∧ cap ≤ maxLen ∧ cur.size = cap * 5 ∧ cur.toList.take (xs.length * 5) = flat xs

theorem QB.lt {w : World} {g cap : Nat} {xs : List Wt} (h : QB w g cap xs) : g < w.heap.size := by obtain ⟨cur, hb, _⟩ := h; exact hb.lt
theorem QB.cell {w : World} {g cap : Nat} {xs : List Wt} (h : QB w g cap xs) (i k : Nat) (hi : i < xs.length) (hk : k < 5) : w.cell? ⟨g, i * 5 + k, none⟩ = xs[i].cells[k]? := by
  obtain ⟨cur, hb, _, _, _, ht⟩ := h
  rw [hb.cell, ← flat_get xs i k hi hk, ← ht, List.getElem?_take]
  have : i * 5 + k < xs.length * 5 := by omega
  rw [if_pos this]
  simp
theorem QB.far {w : World} {g cap : Nat} {xs : List Wt} (h : QB w g cap xs) {g' : Nat} (hg : g ≠ g') (j : Nat) (v : Value) : QB (w.setCell ⟨g', j, none⟩ v) g cap xs := by
  obtain ⟨cur, hb, r⟩ := h; exact ⟨cur, hb.far hg j v, r⟩
theorem QB.alloc {w : World} {g cap : Nat} {xs : List Wt} (h : QB w g cap xs) (o : Obj) : QB (w.alloc o) g cap xs := by
  obtain ⟨cur, hb, r⟩ := h; exact ⟨cur, hb.alloc o, r⟩
theorem QB.drewN {w : World} {g cap : Nat} {xs : List Wt} (h : QB w g cap xs) (n : Nat) : QB (w.drewN n) g cap xs := h
theorem QB.drew {w : World} {g cap : Nat} {xs : List Wt} (h : QB w g cap xs) : QB w.drew g cap xs := h
theorem QB.keep {w w1 : World} {g cap : Nat} {xs : List Wt} (h : QB w g cap xs) (e : w1.heap[g]? = w.heap[g]?) : QB w1 g cap xs := by
  obtain ⟨cur, hb, r⟩ := h; exact ⟨cur, e.trans hb, r⟩

theorem QB.store {w : World} {g cap : Nat} {xs : List Wt} (h : QB w g cap xs) (k : Nat) (y : Wt) (hk : k < xs.length) :
    (Instr.storeAt 72 (.pointer (some ⟨g, k * 5, none⟩)) (.agg y.cells.toArray)).run Try.prog w = .ok () (w.setCells g (k * 5) y.cells) ∧ QB (w.setCells g (k * 5) y.cells) g cap (xs.set k y) := by
  obtain ⟨cur, hb, h1, h2, h3, h4⟩ := h
  have hl : y.cells.length = 5 := rfl
  have hfit : k * 5 + y.cells.length ≤ cur.size := by rw [hl, h3]; omega
  refine ⟨run_store_run _ _ _ hb (by simp [Value.cells]) (by rw [hl]; kernel_rfl) hfit (by intro q hq; simp [Wt.cells] at hq; rcases hq with rfl | rfl | rfl | rfl | rfl <;> rfl), ?_⟩
  obtain ⟨cur', e1, e2, e3⟩ := setCells_row y.cells (k * 5) w cur hb hfit
  refine ⟨cur', e1, by simpa using h1, h2, by rw [e2, h3], ?_⟩
  rw [e3, List.length_set, hl]
  have t1 : (cur.toList.take (k * 5)) = flat (xs.take k) := by
    rw [← flat_take, ← h4, List.take_take, Nat.min_eq_left (by omega)]
  have t2 : (cur.toList.drop (k * 5 + 5)).take (xs.length * 5 - (k * 5 + 5)) = flat (xs.drop (k + 1)) := by
    rw [← flat_drop, ← h4, show (k + 1) * 5 = k * 5 + 5 by omega, List.drop_take]
  have t3 : xs.set k y = xs.take k ++ y :: xs.drop (k + 1) := by rw [List.set_eq_take_append_cons_drop, if_pos hk]
  rw [t3]
  have l1 : (flat (xs.take k)).length = k * 5 := by rw [flat_length, List.length_take, Nat.min_eq_left (by omega)]
  rw [t1, List.append_assoc, List.take_append, l1, List.take_of_length_le (show (flat (xs.take k)).length ≤ xs.length * 5 by rw [l1]; omega), List.take_append, hl, List.take_of_length_le (show y.cells.length ≤ xs.length * 5 - k * 5 by rw [hl]; omega), show xs.length * 5 - k * 5 - 5 = xs.length * 5 - (k * 5 + 5) by omega, t2]
  simp [flat]

/-- nothing but block g has changed -/
theorem kept_setCells (w : World) (g o : Nat) (vs : List Value) : w.grownBy (w.setCells g o vs) (some g) := by
  obtain ⟨h1, h2, h3, h4⟩ := setCells_same g vs o w
  exact ⟨h1, h2, h3, Nat.le_of_eq h4.symm, fun k _ hk => setCells_far vs o k (fun e => hk (by rw [e]))⟩

end Go.Proofs.Ytemcbaacefjfnaa
