/- The reference's Lines: what lies in memory; New. -/
import Derived.Test.YtemcbaacefjfnaaLnOwA
set_option linter.unusedVariables false
set_option linter.unusedSimpArgs false
namespace Go.Proofs.Ytemcbaacefjfnaa
open Go.RowKit Go.Proofs.YtemcbaacefjfnaaW.PrintWords Go.Proofs.YtemcbaacefjfnaaW.PrintLast

def cells4 (z : Wt) : List Value := [.int .i64 z.src, .int .i64 z.dst, .string z.txt, .int .i64 z.due]
def flat4 (l : List Wt) : List Value := l.flatMap cells4
theorem flat4_length (xs : List Wt) : (flat4 xs).length = xs.length * 4 := by
  induction xs with
  | nil => rfl
  | cons x xs ih => simp only [flat4, List.flatMap_cons, List.length_append, List.length_cons] at *; rw [ih]; simp [cells4]; omega
theorem flat4_append (xs ys : List Wt) : flat4 (xs ++ ys) = flat4 xs ++ flat4 ys := by simp [flat4]
theorem flat4_get (xs : List Wt) (i k : Nat) (hi : i < xs.length) (hk : k < 4) : (flat4 xs)[i * 4 + k]? = (cells4 xs[i])[k]? := by
  induction xs generalizing i with
  | nil => simp at hi
  | cons x xs ih =>
    have hl : (cells4 x).length = 4 := rfl
    cases i with
    | zero =>
      simp only [flat4, List.flatMap_cons, Nat.zero_mul, Nat.zero_add, List.getElem_cons_zero]
      rw [List.getElem?_append_left (by omega)]
    | succ i =>
      simp only [flat4, List.flatMap_cons, List.getElem_cons_succ] at ih ⊢
      rw [List.getElem?_append_right (by omega), hl, show (i + 1) * 4 + k - 4 = i * 4 + k by omega]
      exact ih i (by simpa using hi)
theorem flat4_one (xs : List Wt) : ∀ u ∈ flat4 xs, u.oneCell' = true := by
  intro u hu
  simp only [flat4, List.mem_flatMap, cells4] at hu
  obtain ⟨t, _, h⟩ := hu
  simp at h
  rcases h with rfl | rfl | rfl | rfl <;> rfl
theorem infoC : (Try.prog.info? 74).map (fun i => (i.zero, i.size, i.bytes)) = some (some (.agg #[.int .i64 0, .int .i64 0, .string ByteArray.empty, .int .i64 0]), 4, 40) := by kernel_rfl

/-- the reference's lines: the struct in block l, the script's row vs, what waits in the row vw, in the order in which it was sent -/
structure RF (w : World) (l : Nat) (n : Int) (sent : Nat) (vs vw : Value) (scr : List Tb) (m : List Wt) : Prop where
  cell : Blk w l #[.int .i64 n, .int .i64 sent, vs, vw] 68
  row : SR w 0 vs scr
  wait : w.ownsRow 0 74 4 vw m.length (flat4 m)
  vl : vs.ownBlock ≠ some l
  wl : vw.ownBlock ≠ some l
  vw_ : ∀ g, vs.ownBlock = some g → vw.ownBlock ≠ some g
def ownR (l : Nat) (vs vw : Value) (i : Nat) : Prop := i = l ∨ vs.ownBlock = some i ∨ vw.ownBlock = some i
theorem ownsRow_touch' {w w' : World} {base : Nat} {e size n : Nat} {v : Value} {xs : List Value} {t : Nat → Prop} (h : w.ownsRow base e size v n xs) (k : Touch w w' t) (ht : ∀ g, v.ownBlock = some g → ¬ t g) : w'.ownsRow base e size v n xs := by
  obtain ⟨hl, hO⟩ := h
  refine ⟨hl, ?_⟩
  rcases hO with e | ⟨g, cap, cur, rfl, hb, hg, r⟩
  · exact .inl e
  · exact .inr ⟨g, cap, cur, rfl, hb, k.blk hg (ht g rfl), r⟩
section
variable {w w' : World} {l sent : Nat} {n : Int} {vs vw : Value} {scr : List Tb} {m : List Wt} {t : Nat → Prop}
theorem RF.touch (h : RF w l n sent vs vw scr m) (k : Touch w w' t) (ht : ∀ i, ownR l vs vw i → ¬ t i) : RF w' l n sent vs vw scr m :=
  ⟨k.blk h.cell (ht _ (.inl rfl)), h.row.touch k (fun g e => ht _ (.inr (.inl e))), ownsRow_touch' h.wait k (fun g e => ht _ (.inr (.inr e))), h.vl, h.wl, h.vw_⟩
theorem RF.lt (h : RF w l n sent vs vw scr m) {i : Nat} (hi : ownR l vs vw i) : i < w.heap.size := by
  rcases hi with rfl | e | e
  · exact h.cell.lt
  · exact (h.row.lt _ e).2
  · exact (h.wait.lt _ e).2
end

theorem SRA.sr {w : World} {g len c : Nat} {scr : List Tb} (h : SRA w (.slice (some ⟨g, 0, none⟩) len c) scr) (hc : len ≤ c) (hg : g < w.heap.size) : SR w 0 (.slice (some ⟨g, 0, none⟩) len c) scr := by
  rcases h with ⟨h, _⟩ | ⟨a, c', h, h3, h4⟩
  · cases h
  · cases h
    refine .inr ⟨g, 0, c, rfl, Nat.zero_le _, hg, hc, fun j u hu => ?_⟩
    have := h4 j u hu
    rw [cell_add] at this
    rwa [Nat.zero_add]

set_option maxRecDepth 100000 in
set_option maxHeartbeats 2000000 in
theorem rnew_any (n : Int) (vs : Value) (scr : List Tb) (w0 : World) (hS : SRA w0 vs scr) (hf : scr.length ≤ 1000) :
    Calls Try.prog 13 #[.int .i64 n, vs] w0 fun e w' => ∃ l vs' vw, e = .returned (.pointer (some ⟨l, 0, none⟩)) ∧ RF w' l n 0 vs' vw scr [] ∧ (∀ i, ownR l vs' vw i → w0.heap.size ≤ i) ∧ Below w0.heap.size w0 w' := by
  obtain ⟨g, cap, w2, hr, m1, m2, m3, m4, m5, m6⟩ := append_mine w0 vs scr hS hf
  have R := Lib.hid (And.intro m1 (And.intro m2 (And.intro m3 (And.intro m4 (And.intro m5 m6)))))
  clear m1 m2 m3 m4 m5 m6 hS
  go_enter Try.func13, Try.ntmps13
  go_wp2_with (at_builtin; refine wpList_append_run rfl _ _ 22 rfl _ _ _ rfl rfl hr ?_)
  go_ret
  obtain ⟨m1, m2, m3, m4, m5, m6⟩ := R.out
  have hz : w2.heap.size ≠ g := by omega
  refine ⟨w2.heap.size, .slice (some ⟨g, 0, none⟩) scr.length cap, .slice none 0 0, rfl, ⟨Blk.new w2 _ _ rfl, ?_, ⟨rfl, .inl ⟨rfl, rfl⟩⟩, ?_, ?_, ?_⟩, ?_, balloc m6 _⟩
  · exact (SRA.sr m1 m3 m5).touch (Touch.alloc w2 _ (fun _ => False)) (fun _ _ => id)
  · intro e; cases e; exact hz rfl
  · intro e; cases e
  · intro g' _ e; cases e
  · rintro i (rfl | e | e)
    · exact m6.size
    · cases e; exact m4
    · cases e

end Go.Proofs.Ytemcbaacefjfnaa
