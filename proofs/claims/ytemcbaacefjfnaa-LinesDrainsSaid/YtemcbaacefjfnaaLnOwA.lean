/- A row of troubles of the call's own: made by append, written. -/
import Derived.Test.YtemcbaacefjfnaaLnN
set_option linter.unusedVariables false
set_option linter.unusedSimpArgs false
namespace Go.Proofs.Ytemcbaacefjfnaa
open Go.RowKit Go.Proofs.YtemcbaacefjfnaaW.PrintWords Go.Proofs.YtemcbaacefjfnaaW.PrintLast

/-- block g is a row of cap troubles -/
def MB (w : World) (g cap : Nat) : Prop := ∃ cs : Array Value, Blk w g cs 43 ∧ cs.size = cap * 3
theorem MB.touch {w w' : World} {g cap : Nat} {t : Nat → Prop} (h : MB w g cap) (k : Touch w w' t) (ht : ¬ t g) : MB w' g cap := by
  obtain ⟨cs, h1, h2⟩ := h
  exact ⟨cs, k.blk h1 ht, h2⟩
theorem MB.store {w : World} {g cap : Nat} (h : MB w g cap) (k : Nat) (y : Tb) (hk : k < cap) :
    (Instr.storeAt 43 (.pointer (some ⟨g, k * 3, none⟩)) (.agg y.cells.toArray)).run Try.prog w = .ok () (w.setCells g (k * 3) y.cells) ∧ MB (w.setCells g (k * 3) y.cells) g cap ∧ Touch w (w.setCells g (k * 3) y.cells) (fun i => i = g) := by
  obtain ⟨cur, hb, h3⟩ := h
  have hl : y.cells.length = 3 := rfl
  have hfit : k * 3 + y.cells.length ≤ cur.size := by rw [hl, h3]; omega
  refine ⟨run_store_run _ _ _ hb (by simp [Value.cells]) (by rw [hl]; kernel_rfl) hfit (by intro q hq; simp [Tb.cells] at hq; rcases hq with rfl | rfl | rfl <;> rfl), ?_, ?_⟩
  · obtain ⟨cur', e1, e2, e3⟩ := setCells_row y.cells (k * 3) w cur hb hfit
    exact ⟨cur', e1, by rw [e2, h3]⟩
  · exact (Touch.of_grownBy (kept_setCells w g (k * 3) y.cells)).weaken (fun i _ e => by cases e; rfl)

theorem MB.put {w : World} {g cap : Nat} (h : MB w g cap) (j : Nat) (v : Value) : MB (w.setCell ⟨g, j, none⟩ v) g cap := by
  obtain ⟨cs, h1, h2⟩ := h
  exact ⟨_, h1.set j v, by simpa using h2⟩
theorem MB.at {w : World} {g cap : Nat} (h : MB w g cap) (k : Nat) (hk : k < cap) : ∃ x0 x1 x2, w.cell? ⟨g, k * 3, none⟩ = some x0 ∧ w.cell? ⟨g, k * 3 + 1, none⟩ = some x1 ∧ w.cell? ⟨g, k * 3 + 2, none⟩ = some x2 ∧
    w.frozen? ⟨g, k * 3, none⟩ = false ∧ w.frozen? ⟨g, k * 3 + 1, none⟩ = false ∧ w.frozen? ⟨g, k * 3 + 2, none⟩ = false := by
  obtain ⟨cs, h1, h2⟩ := h
  refine ⟨_, _, _, (h1.cell _).trans (Array.getElem?_eq_getElem (by omega)), (h1.cell _).trans (Array.getElem?_eq_getElem (by omega)), (h1.cell _).trans (Array.getElem?_eq_getElem (by omega)), h1.frozen _, h1.frozen _, h1.frozen _⟩
theorem touch3 (w : World) (g i j k : Nat) (a b c : Value) : Touch w (((w.setCell ⟨g, i, none⟩ a).setCell ⟨g, j, none⟩ b).setCell ⟨g, k, none⟩ c) (fun x => x = g) :=
  ((Touch.setCell w g i a (fun x => x = g) rfl).trans (Touch.setCell _ g j b (fun x => x = g) rfl)).trans (Touch.setCell _ g k c (fun x => x = g) rfl)
theorem append_mine (w0 : World) (vs : Value) (scr : List Tb) (hS : SRA w0 vs scr) (hf : scr.length ≤ 1000) :
    ∃ (g cap : Nat) (w' : World), (Builtin.append_ #[22, 22] 22 #[.slice (some ⟨w0.heap.size, 0, none⟩) 0 0, vs]).run Try.prog (w0.alloc (.cells #[] 43)) = .ok (.slice (some ⟨g, 0, none⟩) scr.length cap) w' ∧
      SRA w' (.slice (some ⟨g, 0, none⟩) scr.length cap) scr ∧ MB w' g cap ∧ scr.length ≤ cap ∧ w0.heap.size ≤ g ∧ g < w'.heap.size ∧ Below w0.heap.size w0 w' := by
  have B1 := balloc (Below.refl w0.heap.size w0) (.cells #[] 43)
  obtain ⟨i, hi, hz, hs, hby⟩ := info_parts infoT
  have hb1 := Blk.new w0 #[] 43 rfl
  have es : (w0.alloc (.cells #[] 43)).heap.size = w0.heap.size + 1 := by simp
  have nothing : scr = [] → Src Try.prog i.size 22 vs scr.length (flatT scr) (w0.alloc (.cells #[] 43)) → ∃ (g cap : Nat) (w' : World), (Builtin.append_ #[22, 22] 22 #[.slice (some ⟨w0.heap.size, 0, none⟩) 0 0, vs]).run Try.prog (w0.alloc (.cells #[] 43)) = .ok (.slice (some ⟨g, 0, none⟩) scr.length cap) w' ∧
      SRA w' (.slice (some ⟨g, 0, none⟩) scr.length cap) scr ∧ MB w' g cap ∧ scr.length ≤ cap ∧ w0.heap.size ≤ g ∧ g < w'.heap.size ∧ Below w0.heap.size w0 w' := by
    intro e hsrc
    subst e
    refine ⟨w0.heap.size, 0, _, run_append_nothing (P := Try.prog) (w0.alloc (.cells #[] 43)) 22 22 22 43 i Try.underlying22 hi (some ⟨w0.heap.size, 0, none⟩) 0 0 (Nat.le_refl _) _ hsrc, ?_, ⟨#[], hb1, rfl⟩, Nat.le_refl _, Nat.le_refl _, by omega, B1⟩
    exact .inr ⟨_, 0, rfl, fun h => absurd rfl h, by intro j u hu; simp [flatT] at hu⟩
  rcases hS with ⟨rfl, rfl⟩ | ⟨a, c, rfl, h3, h4⟩
  · exact nothing rfl (by rw [hs]; exact Src.ofNil _ Try.underlying22 _)
  · have hsrc : Src Try.prog 3 22 (.slice (some a) scr.length c) scr.length (flatT scr) (w0.alloc (.cells #[] 43)) := by
      refine Src.ofSlice _ Try.underlying22 _ _ _ _ (flatT_length scr) ?_ (flatT_one scr)
      intro j u hu
      rw [← h4 j u hu]
      have hb : (a.add j).block = a.block := by unfold Addr.add; split <;> rfl
      have := Below.heap_alloc w0 (.cells #[] 43) a.block (h3 (flatT_ne hu))
      simp [World.cell?, hb, this]
    rw [← hs] at hsrc
    by_cases hn : scr = []
    · exact nothing hn hsrc
    · have hpos : 0 < scr.length := List.length_pos_iff.2 hn
      have hr := run_append_grow_src (P := Try.prog) (w0.alloc (.cells #[] 43)) 22 22 22 43 i _ Try.underlying22 hi hz (some ⟨w0.heap.size, 0, none⟩) 0 0 [] (by rw [hs]; exact zc_first _ _ _) _ scr.length (flatT scr) hsrc (by omega) (by omega) (by rw [hby]; exact growslice_fits (by omega) (by omega))
      simp only [Nat.zero_add, List.nil_append] at hr
      have hgr := grownCap_ge (w0.alloc (.cells #[] 43)) scr.length 0 43
      generalize grownCap (w0.alloc (.cells #[] 43)) scr.length 0 43 = cc at *
      have hzs : (Builtin.zeroCells (Value.cells (.agg #[.bool false, .int .i64 0, .int .i64 0])) (cc - scr.length)).size = (cc - scr.length) * 3 := by
        rw [size_zeroCells]; rfl
      generalize hZ : Builtin.zeroCells (Value.cells (.agg #[.bool false, .int .i64 0, .int .i64 0])) (cc - scr.length) = Z at *
      have hb2 := Blk.new (w0.alloc (.cells #[] 43)).drew ((flatT scr).toArray ++ Z) 43 rfl
      rw [show (w0.alloc (.cells #[] 43)).drew.heap.size = w0.heap.size + 1 from es] at hb2
      refine ⟨w0.heap.size + 1, cc, _, by rw [hr, es], ?_, ⟨_, hb2, ?_⟩, hgr, by omega, hb2.lt, bdrew (balloc B1 _)⟩
      · refine .inr ⟨_, cc, rfl, fun _ => hb2.lt, fun j u hu => ?_⟩
        rw [cell_add]
        refine (hb2.cell j).trans ?_
        have hj : j < (flatT scr).length := (List.getElem?_eq_some_iff.1 hu).1
        rw [Array.getElem?_append_left (by simpa using hj)]
        simpa using hu
      · rw [Array.size_append, hzs]
        simp [flatT_length]
        omega

end Go.Proofs.Ytemcbaacefjfnaa
