/- LinesDrains: the map of times by texts, the rows that it leads to, and what is taken, in plain Lean. -/
import Derived.Test.YtemcbaacefjfnaaLnOwn
import Derived.Maps.Views
set_option linter.unusedVariables false
set_option linter.unusedSimpArgs false
namespace Go.Proofs.Ytemcbaacefjfnaa
open Go.RowKit Go.Proofs.YtemcbaacefjfnaaW.PrintWords Go.Proofs.YtemcbaacefjfnaaW.PrintLast

/-! the map -/
def anyE (v : Value) : Option (DataW Value × List MemPlace) := some (.held v, [])
theorem strK : Maps.Keyed Try.prog 9 := Maps.string_keyed Try.underlying9
def keyL (j : Nat) : Lit := .string (txB j).data.toList
theorem keyL_of (j : Nat) : keyOf Try.prog 9 (.string (txB j)) = some (keyL j) := WideMaps.keyOf_string_mk Try.underlying9 (by simp [txB, ByteArray.size, maxLen])
theorem keyL_inj {i j : Nat} (hi : i < 256) (hj : j < 256) (h : keyL i = keyL j) : i = j := by
  simp only [keyL, txB, Lit.string.injEq, List.cons.injEq, and_true] at h
  have := congrArg UInt8.toNat h
  simp only [UInt8.toNat_ofNat'] at this
  omega
theorem zeroSI (w : World) : (zeroValue 37).run Try.prog w = .ok (.slice none 0 0) w := by kernel_rfl
def MapR (w : World) (B n : Nat) (V : Nat → Value) : Prop :=
  ∃ D : DataW Value, Maps.IsMap D ∧ w.ownsMap Try.prog 9 anyE B n D ∧ ∀ j, j < 256 → D.atKey (keyL j) (.held (.slice none 0 0)) = .held (V j)
theorem MapR.lt {w : World} {B n : Nat} {V : Nat → Value} (h : MapR w B n V) : B < w.heap.size := by obtain ⟨D, _, h, _⟩ := h; exact h.lt
theorem MapR.touch {w w' : World} {B n : Nat} {V : Nat → Value} {t : Nat → Prop} (h : MapR w B n V) (k : Touch w w' t) (ht : ¬ t B) : MapR w' B n V := by
  have hl := h.lt
  obtain ⟨D, h1, ⟨es, cl, hb, r⟩, h3⟩ := h
  exact ⟨D, h1, ⟨es, cl, (k.block B hl ht).trans hb, r⟩, h3⟩
theorem MapR.made (w : World) : MapR (w.alloc (.map #[] 0)) w.heap.size 0 (fun _ => .slice none 0 0) :=
  ⟨.map [], Maps.isMap_empty, World.ownsMap_made _ _ _ _, fun j _ => rfl⟩
theorem MapR.look {w : World} {B n : Nat} {V : Nat → Value} (h : MapR w B n V) (j : Nat) (hj : j < 256) : (Instr.lookup 38 (.map (some B)) (.string (txB j)) false).run Try.prog w = .ok (V j) w := by
  obtain ⟨D, h1, h2, h3⟩ := h
  obtain ⟨v, ps, hr, hv⟩ := h2.lookup strK Try.underlying38 (zeroSI w) (z := .slice none 0 0) (zd := .held (.slice none 0 0)) (zp := []) rfl (keyL_of j)
  rw [h3 j hj] at hv
  simp only [anyE, Option.some.injEq, Prod.mk.injEq, DataW.held.injEq] at hv
  rw [hr, hv.1]
theorem MapR.put {w : World} {B n : Nat} {V : Nat → Value} (h : MapR w B n V) (j : Nat) (hj : j < 256) (v : Value) (hn : n < maxLen) :
    ∃ w', (Instr.mapUpdate 38 (.map (some B)) (.string (txB j)) v).run Try.prog w = .ok () w' ∧ MapR w' B (n + 1) (fun i => if i = j then v else V i) ∧ w.grownBy w' (some B) := by
  obtain ⟨D, h1, h2, h3⟩ := h
  obtain ⟨w', hr, a1, a2⟩ := h2.update strK Try.underlying38 hn (key := .string (txB j)) (val := v) (keyL_of j) (d := .held v) (ps := []) rfl
  refine ⟨w', hr, ⟨_, h1.put _ _, a1, fun i hi => ?_⟩, a2⟩
  by_cases e : i = j
  · subst e
    show _ = DataW.held (if i = i then v else V i)
    rw [if_pos rfl]
    exact Maps.atKey_put_same h1 (strK.key (keyL_of i)) _ _
  · show _ = DataW.held (if i = j then v else V i)
    rw [if_neg e, Maps.atKey_put_other (fun e2 => e (keyL_inj hi hj e2))]
    exact h3 i hi

/-! a row of times -/
def RowD (w : World) (Q : Nat → Prop) (v : Value) (l : List Int) : Prop :=
  (v = .slice none 0 0 ∧ l = []) ∨ ∃ g off cap, v = .slice (some ⟨g, off, none⟩) l.length cap ∧ l.length ≤ cap ∧ cap ≤ maxLen ∧ Q g ∧ g < w.heap.size ∧ ∀ i u, l[i]? = some u → w.cell? ⟨g, off + i, none⟩ = some (.int .i64 u)
theorem RowD.touch {w w' : World} {Q : Nat → Prop} {v : Value} {l : List Int} {t : Nat → Prop} (h : RowD w Q v l) (k : Touch w w' t) (ht : ∀ g, Q g → ¬ t g) : RowD w' Q v l := by
  rcases h with h | ⟨g, off, cap, e, h1, h2, h3, h4, h5⟩
  · exact .inl h
  · refine .inr ⟨g, off, cap, e, h1, h2, h3, Nat.lt_of_lt_of_le h4 k.size, fun i u hu => ?_⟩
    rw [← h5 i u hu]
    unfold World.cell?
    rw [k.block g h4 (ht g h3)]
theorem RowD.mono {w : World} {Q Q' : Nat → Prop} {v : Value} {l : List Int} (h : RowD w Q v l) (hQ : ∀ g, g < w.heap.size → Q g → Q' g) : RowD w Q' v l := by
  rcases h with h | ⟨g, off, cap, e, h1, h2, h3, h4, h5⟩
  · exact .inl h
  · exact .inr ⟨g, off, cap, e, h1, h2, hQ g h4 h3, h4, h5⟩
theorem RowD.of_own {w : World} {Q : Nat → Prop} {v : Value} {n : Nat} {f : Nat → Int} (h : w.ownsRow 0 3 1 v n (ints n f)) (hQ : ∀ g, v.ownBlock = some g → Q g) : RowD w Q v ((List.range n).map f) := by
  have hO := h
  rcases h.2 with ⟨e, e2⟩ | ⟨g, cap, cur, rfl, hb, hg, hnc, hcm, hcs, _⟩
  · have : n = 0 := by simpa [ints] using e2
    subst this
    exact .inl ⟨e, rfl⟩
  · refine .inr ⟨g, 0, cap, by simp, by simpa using hnc, hcm, hQ g rfl, (Array.getElem?_eq_some_iff.1 hg).1, fun i u hu => ?_⟩
    obtain ⟨hi, hu2⟩ := List.getElem?_eq_some_iff.1 hu
    simp only [List.length_map, List.length_range] at hi
    simp only [List.getElem_map, List.getElem_range] at hu2
    rw [Nat.zero_add, ints_cell hO hi, hu2]

/-! what waits: by texts, in the order of times -/
def rowM (m : List Wt) (j : Nat) : List Int := (m.filter fun x => x.num == (j : Int)).map (·.due)
def dueL (scr : List Tb) (k : Nat) (d : Int) : List Int := if (tbAt scr k).lost = true then [] else (List.range (copiesOf (tbAt scr k))).map fun (j : Nat) => firstOf (tbAt scr k) d + j
theorem sendL_dr (scr : List Tb) (k : Nat) (d : Int) : sendL 2 k scr d 0 1 (txB k) = (dueL scr k d).map fun x => ⟨0, 1, txB k, x, k⟩ := by
  have n0 : nodeB 2 0 = true := rfl
  have n1 : nodeB 2 1 = true := rfl
  unfold sendL dueL
  rw [n0, n1]
  by_cases h : (tbAt scr k).lost = true
  · simp [h]
  · simp [h, Function.comp_def]
theorem rowM_append (a b : List Wt) (j : Nat) : rowM (a ++ b) j = rowM a j ++ rowM b j := by simp [rowM]
theorem rowM_send (l : List Int) (k j : Nat) : rowM (l.map fun x => ⟨0, 1, txB k, x, k⟩) j = if j = k then l else [] := by
  unfold rowM
  by_cases h : j = k
  · subst h
    rw [if_pos rfl, List.filter_eq_self.2 (by intro x hx; obtain ⟨y, _, rfl⟩ := List.mem_map.1 hx; simp)]
    simp [Function.comp_def]
  · rw [if_neg h, List.filter_eq_nil_iff.2 (by intro x hx; obtain ⟨y, _, rfl⟩ := List.mem_map.1 hx; simp; omega)]
    rfl
theorem dueL_sorted (scr : List Tb) (k : Nat) (d : Int) : (dueL scr k d).Pairwise (· < ·) := by
  unfold dueL
  split
  · exact List.Pairwise.nil
  · rw [List.pairwise_map]
    exact List.Pairwise.imp (fun h => by omega) List.pairwise_lt_range
/-- the state of what waits, when k messages have been sent -/
structure DrS (m : List Wt) (k : Nat) (last : Int) : Prop where
  form : ∀ x, x ∈ m → ∃ j : Nat, j < k ∧ x = ⟨0, 1, txB j, x.due, j⟩
  rows : ∀ j, (rowM m j).Pairwise (· < ·)
  late : ∀ x, x ∈ m → last ≤ x.due
theorem DrS.nil (k : Nat) (last : Int) : DrS [] k last := ⟨(by simp), fun j => List.Pairwise.nil, (by simp)⟩
theorem firstOf_ge (t : Tb) (d : Int) : 0 ≤ firstOf t d := by unfold firstOf clampI; omega
theorem rowM_none {m : List Wt} {k : Nat} {last : Int} (h : DrS m k last) {j : Nat} (hj : k ≤ j) : rowM m j = [] := by
  unfold rowM
  rw [List.filter_eq_nil_iff.2]
  · rfl
  · intro x hx
    obtain ⟨i, hi, e⟩ := h.form x hx
    rw [e]
    simp
    omega
theorem DrS.send {m : List Wt} {k : Nat} (h : DrS m k 0) (scr : List Tb) (d : Int) : DrS (m ++ sendL 2 k scr d 0 1 (txB k)) (k + 1) 0 := by
  rw [sendL_dr]
  refine ⟨fun x hx => ?_, fun j => ?_, fun x hx => ?_⟩
  · rcases List.mem_append.1 hx with hx | hx
    · obtain ⟨j, hj, e⟩ := h.form x hx
      exact ⟨j, by omega, e⟩
    · obtain ⟨y, _, rfl⟩ := List.mem_map.1 hx
      exact ⟨k, by omega, rfl⟩
  · rw [rowM_append, rowM_send]
    by_cases e : j = k
    · subst e
      rw [rowM_none h (Nat.le_refl _), if_pos rfl]
      exact dueL_sorted scr j d
    · rw [if_neg e, List.append_nil]
      exact h.rows j
  · rcases List.mem_append.1 hx with hx | hx
    · exact h.late x hx
    · obtain ⟨y, hy, rfl⟩ := List.mem_map.1 hx
      unfold dueL at hy
      split at hy
      · cases hy
      · obtain ⟨i, _, rfl⟩ := List.mem_map.1 hy
        have := firstOf_ge (tbAt scr k) d
        show (0 : Int) ≤ firstOf (tbAt scr k) d + (i : Int)
        omega
theorem rowM_step {m : List Wt} {k : Nat} {d : Int} {scr : List Tb} (h : DrS m k 0) (j : Nat) : rowM (m ++ sendL 2 k scr d 0 1 (txB k)) j = if j = k then dueL scr k d else rowM m j := by
  rw [sendL_dr, rowM_append, rowM_send]
  by_cases e : j = k
  · subst e; rw [rowM_none h (Nat.le_refl _)]; simp
  · simp [e]
/-- the next one -/
theorem DrS.next {m : List Wt} {k : Nat} {last : Int} (h : DrS m k last) (hA : Apart m) (hne : m ≠ []) :
    ∃ (j : Nat) (l : List Int), j < k ∧ best m = ⟨0, 1, txB j, (best m).due, j⟩ ∧ last ≤ (best m).due ∧ rowM m j = (best m).due :: l ∧ rowM (m.erase (best m)) j = l ∧ (∀ i, i ≠ j → rowM (m.erase (best m)) i = rowM m i) ∧ DrS (m.erase (best m)) k (best m).due := by
  have hb := best_mem hne
  have hl := fun z hz => best_le (m := m) z hz
  have hnd : m.Nodup := List.Pairwise.imp (fun h e => h (by rw [e]; exact ⟨rfl, rfl⟩)) hA
  obtain ⟨j, hj, hx⟩ := h.form _ hb
  have hnum : (best m).num = j := by rw [hx]
  generalize hB : best m = x at *
  have hmem : x ∈ m.filter (fun y => y.num == (j : Int)) := List.mem_filter.2 ⟨hb, by simp [hnum]⟩
  have ers : ∀ i : Nat, (m.erase x).filter (fun y => y.num == (i : Int)) = (m.filter (fun y => y.num == (i : Int))).erase x := by
    intro i
    rw [hnd.erase_eq_filter, (hnd.sublist List.filter_sublist).erase_eq_filter, List.filter_filter, List.filter_filter]
    apply List.filter_congr
    intro y _
    exact Bool.and_comm _ _
  have hrow := h.rows j
  obtain ⟨F, hF⟩ : ∃ F, F = m.filter (fun y => y.num == (j : Int)) := ⟨_, rfl⟩
  have hsub : ∀ y, y ∈ F → y ∈ m := fun y hy => by rw [hF] at hy; exact (List.mem_filter.1 hy).1
  have ej := ers j
  unfold rowM at hrow
  rw [← hF] at hmem hrow ej
  have oth : ∀ i, i ≠ j → rowM (m.erase x) i = rowM m i := by
    intro i hi
    unfold rowM
    rw [ers i, List.erase_of_not_mem]
    intro hm
    have := (List.mem_filter.1 hm).2
    rw [hnum] at this
    simp at this
    omega
  have main : ∃ l, rowM m j = x.due :: l ∧ rowM (m.erase x) j = l := by
    cases F with
    | nil => cases hmem
    | cons y F' =>
      have hyx : y = x := by
        rcases List.mem_cons.1 hmem with e | e
        · exact e.symm
        · rw [List.map_cons, List.pairwise_cons] at hrow
          have h1 := hrow.1 x.due (List.mem_map.2 ⟨x, e, rfl⟩)
          have h2 := hl y (hsub y (by simp))
          rw [leW_iff] at h2
          omega
      subst hyx
      refine ⟨F'.map (·.due), ?_, ?_⟩
      · unfold rowM; rw [← hF]; rfl
      · unfold rowM; rw [ej]; simp
  obtain ⟨l, e1, e2⟩ := main
  refine ⟨j, l, hj, hx, h.late x hb, e1, e2, oth, ⟨fun y hy => h.form y (List.mem_of_mem_erase hy), fun i => ?_, fun y hy => ?_⟩⟩
  · by_cases e : i = j
    · subst e
      have := h.rows i
      rw [e1, List.pairwise_cons] at this
      rw [e2]
      exact this.2
    · rw [oth i e]
      exact h.rows i
  · have := hl y (List.mem_of_mem_erase hy)
    rw [leW_iff] at this
    omega

end Go.Proofs.Ytemcbaacefjfnaa
