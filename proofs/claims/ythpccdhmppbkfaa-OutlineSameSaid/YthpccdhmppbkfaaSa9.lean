/- OAll, OMix, OCm, ORs, Read, ORead, OGlA: merged by wip/prune.py. -/
import Derived.Deep.Upon
import Derived.Deep.AppendSrc
import Derived.ProofKit
import Derived.OpenShut
import Derived.Lib.SmallJoins
import Derived.Deep.Slices
import Derived.ChangeSame
import Derived.Test.YthpccdhmppbkfaaSa2
import Derived.Test.YthpccdhmppbkfaaSa3
import Derived.Test.YthpccdhmppbkfaaSa5
import Derived.Test.YthpccdhmppbkfaaSa6
import Derived.Test.YthpccdhmppbkfaaSa7
import Derived.Test.YthpccdhmppbkfaaSa8
/- A whole row appended to an own row; a cell stored into an own row; views of elder worlds made younger. -/
set_option linter.unusedVariables false
set_option linter.unusedSimpArgs false
set_option maxRecDepth 100000
set_option maxHeartbeats 16000000
namespace Go.Proofs.Ythpccdhmppbkfaa
open Go.RowKit Go.Shelf Go.Deep Go.Proofs.YthpccdhmppbkfaaW.PrintWords Go.Proofs.YthpccdhmppbkfaaW.PrintLast Go.Proofs.YthpccdhmppbkfaaW.PrintMore
theorem Reps_append {α : Type} {R : α → List Value → Prop} {s : Nat} {xs ys : List α} {cs ds : List Value} (h : Reps R s xs cs) (k : Reps R s ys ds) : Reps R s (xs ++ ys) (cs ++ ds) := by
 refine ⟨by rw [List.length_append, List.length_append, h.1, k.1, Nat.add_mul], fun j p hp => ?_⟩
 rcases Nat.lt_or_ge j xs.length with hj | hj
 ·rw [List.getElem?_append_left hj] at hp
  have h1 : j * s + s ≤ cs.length := by rw [h.1, ← Nat.succ_mul]; exact Nat.mul_le_mul_right _ hj
  rw [List.drop_append_of_le_length (by omega), List.take_append_of_le_length (by rw [List.length_drop]; omega)]
  exact h.2 j p hp
 ·rw [List.getElem?_append_right hj] at hp
  have h1 := k.2 _ p hp
  rw [List.drop_append, List.drop_eq_nil_of_le (by rw [h.1]; exact Nat.mul_le_mul_right _ hj), List.nil_append, h.1, ← Nat.sub_mul]
  exact h1
theorem C_cells {α : Type} {d : Kd α} {w : World} {a : Addr} {ys : List α} (h : Kd.C d w (some a) ys.length ys) : ∃ news : List Value, Reps (d.K w) d.sz ys news ∧ (∀ j u, news[j]? = some u → w.cell? (a.add j) = some u) ∧ (∀ u ∈ news, u.oneCell' = true) := by
 have key : ∀ k, k ≤ ys.length → ∃ news : List Value, Reps (d.K w) d.sz (ys.take k) news ∧ (∀ j u, news[j]? = some u → w.cell? (a.add j) = some u) ∧ (∀ u ∈ news, u.oneCell' = true) := by
  intro k
  induction k with
  | zero => exact fun _ => ⟨[], Reps.none _ _, fun j u hj => by simp at hj, fun u hu => by cases hu⟩
  | succ k ih =>
   intro hk
   obtain ⟨news, h1, h2, h3⟩ := ih (by omega)
   obtain ⟨ad, e, hc⟩ := h.2.2 (by omega)
   cases e
   obtain ⟨c, hcl, hK, hcell⟩ := hc k _ (List.getElem?_eq_getElem (by omega : k < ys.length))
   refine ⟨news ++ c, ?_, fun j u hj => ?_, fun u hu => ?_⟩
   ·rw [List.take_succ_eq_append_getElem (by omega)]
    exact h1.snoc hK hcl
   ·have hl : news.length = k * d.sz := by rw [h1.1, List.length_take, Nat.min_eq_left (by omega)]
    rcases Nat.lt_or_ge j news.length with hj' | hj'
    ·rw [List.getElem?_append_left hj'] at hj; exact h2 j u hj
    ·rw [List.getElem?_append_right hj'] at hj
     have := hcell _ u hj
     rwa [hl, show k * d.sz + (j - k * d.sz) = j by omega] at this
   ·rcases List.mem_append.1 hu with hu | hu
    ·exact h3 u hu
    ·exact d.K_one hK u hu
 obtain ⟨news, h1, h2, h3⟩ := key ys.length (Nat.le_refl _)
 rw [List.take_length] at h1
 exact ⟨news, h1, h2, h3⟩
theorem append_all {α : Type} {d : Kd α} {w0 w : World} {base : Nat} {v : Value} {xs ys : List α} (t e : TypeId) (z : Value) (bytes : Nat) (ht : Try.prog.underlying t = some (.slice e)) (hinfo : (Try.prog.info? e).map (fun i => (i.zero, i.size, i.bytes)) = some (some z, d.sz, bytes)) (hz : z.cells.size = d.sz) (hs0 : 0 < d.sz) (hb0 : 0 < bytes)
  (hKM : ∀ {x cs}, d.K w x cs → d.M w base (fun _ => False) x cs)
  (hR : d.R e w base (fun _ => True) v xs) (hB : Below base w0 w) (hbase : base ≤ w.heap.size) (A : Option Addr) (c : Nat) (hC : Kd.C d w A ys.length ys) (hl : (xs.length + ys.length) * bytes ≤ 140737488355328) :
  ∃ v' w', (Builtin.append_ #[t, t] t #[v, .slice A ys.length c]).run Try.prog w = .ok v' w' ∧ d.R e w' base (fun _ => True) v' (xs ++ ys) ∧ Below base w0 w' ∧ w.grownBy w' v.ownBlock := by
 obtain ⟨i0, hi, hzz⟩ := Option.map_eq_some_iff.1 hinfo
 simp only [Prod.mk.injEq] at hzz
 obtain ⟨hz0, hz1, hz2⟩ := hzz
 have hlen : xs.length + ys.length ≤ 140737488355328 := Nat.le_trans (Nat.le_mul_of_pos_right _ hb0) hl
 cases A with
 | none =>
  have hy : ys = [] := by
   rcases Nat.eq_zero_or_pos ys.length with h0 | h0
   ·exact List.eq_nil_of_length_eq_zero h0
   ·obtain ⟨ad, e, _⟩ := hC.2.2 h0; cases e
  subst hy
  obtain ⟨B, k, rfl, hk, _⟩ := Kd.R_reads hR
  refine ⟨_, w, run_append_nothing w t t t e i0 ht hi B xs.length k hk (.slice none 0 c) (Src.ofNil w ht c), by rw [List.append_nil]; exact hR, hB, ?_⟩
  exact ⟨rfl, rfl, rfl, Nat.le_refl _, fun _ _ _ => rfl⟩
 | some a =>
  obtain ⟨news, hn1, hn2, hn3⟩ := C_cells hC
  obtain ⟨h0, inner, hown, hr⟩ := hR
  obtain ⟨v1, w1, hrun, ho, hg, _, hat⟩ := run_append_own_at (P := Try.prog) w base t t e i0 z d.sz bytes ht hi hz0 hz1 hz2 hz hs0 v xs.length inner hown a ys.length c news hn1.1 hn2 hn3 (by simp only [maxLen]; omega) hl hbase
  have hne : ∀ k, some k ≠ v.ownBlock → k < w.heap.size → some k ≠ v1.ownBlock := by
   intro k hk hlt
   rcases hat with hat | hat
   ·rw [hat]; exact hk
   ·rw [hat]
    intro he
    injection he with he
    omega
  refine ⟨v1, w1, hrun, ⟨fun _ _ => trivial, inner ++ news, by rw [List.length_append]; exact ho, Reps_append (hr.imp_ fun q cs hq => ?_) (hn1.imp_ fun q cs hq => ?_)⟩, hB.grown hg hbase (own_base hown), hg⟩
  ·have h1 := d.M_move (w1 := w1) (fun k hk => hg.block k hk.2.2.1 hk.1.2) (d.M_bound hq)
   exact d.M_mono (fun k hk => ⟨trivial, hne k hk.1.2 hk.2.2.1⟩) h1
  ·exact d.M_mono (fun k hk => hk.elim) (d.M_move (w1 := w1) (fun k hk => hk.elim) (hKM hq))
theorem set_part (l : List Value) (q : Nat) (u : Value) (a s : Nat) (h : ¬ (a ≤ q ∧ q < a + s)) : ((l.set q u).drop a).take s = (l.drop a).take s := by
 apply List.ext_getElem?
 intro i
 simp only [List.getElem?_take, List.getElem?_drop, List.getElem?_set]
 split
 ·rw [if_neg (by omega)]
 ·rfl
theorem set_here (l : List Value) (a s j : Nat) (u : Value) (hj : j < s) (hl : a + s ≤ l.length) : ((l.set (a + j) u).drop a).take s = ((l.drop a).take s).set j u := by
 apply List.ext_getElem?
 intro i
 simp only [List.getElem?_take, List.getElem?_drop, List.getElem?_set, List.length_take, List.length_drop]
 by_cases h1 : i < s
 ·simp only [if_pos h1]
  by_cases h2 : i = j
  ·subst h2
   rw [if_pos rfl, if_pos (by omega), if_pos rfl, if_pos (by omega)]
  ·rw [if_neg (by omega), if_neg (fun h => h2 h.symm)]
 ·simp only [if_neg h1]
  rw [if_neg (by omega)]
theorem R_put1 {α : Type} {d : Kd α} {w : World} {base e g n cap : Nat} {xs : List α} (h : d.R e w base (fun _ => True) (.slice (some ⟨g, 0, none⟩) n cap) xs) (z : α) (i j : Nat) (hi : i < n) (hj : j < d.sz) (u : Value)
  (hp : ∀ cs, d.M w base (fun k => True ∧ some k ≠ (Value.slice (some ⟨g, 0, none⟩) n cap).ownBlock) (xs.getD i z) cs → ∃ p', d.M (w.setCell ⟨g, i * d.sz + j, none⟩ u) base (fun k => True ∧ some k ≠ (Value.slice (some ⟨g, 0, none⟩) n cap).ownBlock) p' (cs.set j u)) :
  ∃ xs', xs'.length = n ∧ d.R e (w.setCell ⟨g, i * d.sz + j, none⟩ u) base (fun _ => True) (.slice (some ⟨g, 0, none⟩) n cap) xs' ∧ w.grownBy (w.setCell ⟨g, i * d.sz + j, none⟩ u) (some g) := by
 have hn : n = xs.length := (Kd.R_reads' h).1
 subst hn
 obtain ⟨h0, inner, hown, hr⟩ := h
 have hil : inner.length = xs.length * d.sz := hr.1
 have hq : i * d.sz + d.sz ≤ inner.length := by rw [hil, ← Nat.succ_mul]; exact Nat.mul_le_mul_right _ hi
 obtain ⟨p', hp'⟩ := hp _ (hr.2 i (xs.getD i z) (by rw [List.getD_eq_getElem?_getD, List.getElem?_eq_getElem hi]; rfl))
 obtain ⟨ho, hg⟩ := hown.stored (i * d.sz + j) u
 refine ⟨xs.set i p', by simp, ⟨fun _ _ => trivial, inner.set (i * d.sz + j) u, by rw [List.length_set]; exact ho, by rw [List.length_set, List.length_set]; exact hil, fun m p hm => ?_⟩, hg⟩
 rw [List.getElem?_set] at hm
 split at hm
 ·rename_i e1
  subst e1
  cases hm
  rw [set_here _ _ _ _ _ hj hq]
  exact hp'
 ·rename_i e1
  rw [set_part _ _ _ _ _ (by
   rintro ⟨h1, h2⟩
   rcases Nat.lt_or_ge i m with h3 | h3
   ·have := Nat.mul_le_mul_right d.sz (show i + 1 ≤ m from h3)
    rw [Nat.add_mul, Nat.one_mul] at this
    omega
   ·have := Nat.mul_le_mul_right d.sz (show m + 1 ≤ i by omega)
    rw [Nat.add_mul, Nat.one_mul] at this
    omega)]
  refine Kd.M_step (hr.2 m p hm) (fun k hk hlt => Below.heap_setCell w _ u k (fun e2 => hk.2 ?_))
  show some k = some g
  rw [e2]
theorem R_frozen {α : Type} {d : Kd α} {w : World} {base e g n cap : Nat} {ok : Nat → Prop} {xs : List α} (h : d.R e w base ok (.slice (some ⟨g, 0, none⟩) n cap) xs) (o : Nat) : w.frozen? ⟨g, o, none⟩ = false := by
 obtain ⟨h0, inner, hown, hr⟩ := h
 rcases hown.2 with ⟨h1, _⟩ | ⟨g', cap', cur, h1, _, hh, _⟩
 ·cases h1
 ·cases h1
  simp [World.frozen?, hh]
theorem R_addr {α : Type} {d : Kd α} {w : World} {base e : Nat} {ok : Nat → Prop} {v : Value} {xs : List α} (h : d.R e w base ok v xs) (h0 : 0 < xs.length) : ∃ g c, v = .slice (some ⟨g, 0, none⟩) xs.length c ∧ base ≤ g ∧ g < w.heap.size := by
 obtain ⟨_, inner, hown, hr⟩ := h
 have hown2 := hown
 rcases hown.2 with ⟨h1, h2⟩ | ⟨g', cap', cur, h1, h2, hh, _⟩
 ·omega
 ·exact ⟨g', cap', h1, h2, (Array.getElem?_eq_some_iff.1 hh).1⟩
theorem C_view {α : Type} {d : Kd α} {w0 w : World} {A : Option Addr} {n : Nat} {xs : List α} (h : Kd.C d w0 A n xs) (hb : Below w0.heap.size w0 w) : Kd.C (view w0 d) w A n xs :=
 ReadsRow.imp_ h hb (fun _ _ hp => hp)
theorem C_take {α : Type} {d : Kd α} {w : World} {A : Option Addr} {n : Nat} {xs : List α} (h : Kd.C d w A n xs) (m : Nat) (hm : m ≤ n) : Kd.C d w A (xs.take m).length (xs.take m) := by
 have hl : (xs.take m).length = m := by rw [List.length_take, h.1]; omega
 refine ⟨rfl, by rw [hl]; have := h.2.1; omega, fun h0 => ?_⟩
 rw [hl] at h0
 obtain ⟨ad, e, hc⟩ := h.2.2 (by omega)
 refine ⟨ad, e, fun j p hp => hc j p ?_⟩
 rw [List.getElem?_take] at hp
 split at hp
 ·exact hp
 ·cases hp
theorem R_empty {α : Type} (d : Kd α) (e : TypeId) {w : World} {base : Nat} (hb : base ≤ w.heap.size) : d.R e (w.alloc (.cells #[] e)) base (fun _ => True) (.slice (some ⟨w.heap.size, 0, none⟩) 0 0) [] :=
 ⟨fun _ _ => trivial, OwnRow.lit (inner := []) (ps := []) w base (Reps.none _ _) hb (by simp)⟩
theorem R_put8 {α : Type} {d : Kd α} {e : TypeId} {w : World} {base : Nat} {ok : Nat → Prop} {v : Value} {xs : List α} {g : Nat} {t : TypeId} {cs : Array Value} (h : Kd.R d e w base ok v xs) (xb : Blk w g cs t) (ht : ∀ q, q ∈ e :: d.E → q ≠ t) (v0 v1 v2 v3 v4 v5 v6 v7 : Value) : Kd.R d e ((((((((w.setCell ⟨g, 0, none⟩ v0).setCell ⟨g, 1, none⟩ v1).setCell ⟨g, 2, none⟩ v2).setCell ⟨g, 3, none⟩ v3).setCell ⟨g, 4, none⟩ v4).setCell ⟨g, 5, none⟩ v5).setCell ⟨g, 6, none⟩ v6).setCell ⟨g, 7, none⟩ v7) base ok v xs :=
 (Kd.R_set (Kd.R_set (Kd.R_set (Kd.R_set (Kd.R_set (Kd.R_set (Kd.R_set (Kd.R_set h xb ht 0 v0) (xb.set 0 v0) ht 1 v1) ((xb.set 0 v0).set 1 v1) ht 2 v2) (((xb.set 0 v0).set 1 v1).set 2 v2) ht 3 v3) ((((xb.set 0 v0).set 1 v1).set 2 v2).set 3 v3) ht 4 v4) (((((xb.set 0 v0).set 1 v1).set 2 v2).set 3 v3).set 4 v4) ht 5 v5) ((((((xb.set 0 v0).set 1 v1).set 2 v2).set 3 v3).set 4 v4).set 5 v5) ht 6 v6) (((((((xb.set 0 v0).set 1 v1).set 2 v2).set 3 v3).set 4 v4).set 5 v5).set 6 v6) ht 7 v7)
theorem Sc_len8 {α : Type} {d : Kd α} {e base n c : Nat} {ok : Nat → Prop} {w : World} {A : Option Addr} {xs : List α} (h : Kd.R d e w base ok (.slice A n c) xs) : Kd.C d w A n xs := by
 have h1 := Kd.R_reads' h
 rw [h1.1]; exact h1.2.2
/- Rows whose elements' own rows are partly elder, partly of one's own; one cell stored into such a row. -/
def mix {α : Type} (w0 : World) (d : Kd α) : Kd α where
 sz := d.sz
 E := d.E
 K := fun w x cs => d.K w0 x cs ∨ d.K w x cs
 M := fun w base ok x cs => d.K w0 x cs ∨ d.M w base ok x cs
 K_len := fun h => h.elim d.K_len d.K_len
 K_one := fun h => h.elim d.K_one d.K_one
 K_below := fun hb h => h.imp id (d.K_below hb)
 K_of_M := fun h => h.imp id d.K_of_M
 M_mono := fun hk h => h.imp id (d.M_mono hk)
 M_bound := fun h => h.imp id d.M_bound
 M_move := fun hk h => h.imp id (d.M_move hk)
 M_lower := fun hb h => h.imp id (d.M_lower hb)
theorem C_of_mix {α : Type} {d : Kd α} {w0 w : World} {A : Option Addr} {n : Nat} {xs : List α} (h : Kd.C (mix w0 d) w A n xs) (hb : Below w0.heap.size w0 w) : Kd.C d w A n xs :=
 ReadsRow.imp_ h (Below.refl _ _) (fun _ _ hp => Or.elim hp (d.K_below hb) id)
theorem R_mix {α : Type} {d : Kd α} {e : Nat} {w w0 : World} {base : Nat} {ok : Nat → Prop} {v : Value} {xs : List α} (h : (view w0 d).R e w base ok v xs) : (mix w0 d).R e w base ok v xs := by
 obtain ⟨h0, inner, ho, hr⟩ := h
 exact ⟨h0, inner, ho, hr.imp_ fun _ _ hp => Or.inl hp⟩
theorem R_apart {α β : Type} {d : Kd α} {d' : Kd β} {e e' : Nat} {base base' : Nat} {ok : Nat → Prop} {w : World} {v u : Value} {xs : List α} {ys : List β} (h : Kd.R d e w base (fun _ => True) v xs) (k : Kd.R d' e' w base' ok u ys) (ht : ∀ q, q ∈ e :: d.E → q ≠ e') : Kd.R d e w base (fun j => True ∧ some j ≠ u.ownBlock) v xs := by
 refine Kd.R_mono (Kd.R_bound h) (fun j hj => ⟨trivial, fun he => ?_⟩)
 obtain ⟨_, _, _, q, hq, cells, hc⟩ := hj
 obtain ⟨inner, ho⟩ := Kd.R_own k
 obtain ⟨cells', hc'⟩ := own_typed ho j he.symm
 rw [hc] at hc'
 injection hc' with hc'
 injection hc' with h1 h2
 exact ht q hq h2
theorem R_put1M {α : Type} {d : Kd α} {w : World} {base e g n cap : Nat} {xs : List α} (h : d.R e w base (fun _ => True) (.slice (some ⟨g, 0, none⟩) n cap) xs) (z : α) (i j : Nat) (hi : i < n) (hj : j < d.sz) (u : Value)
  (hp : ∀ cs, d.M w base (fun k => True ∧ some k ≠ (Value.slice (some ⟨g, 0, none⟩) n cap).ownBlock) (xs.getD i z) cs → ∃ p', d.M w base (fun k => True ∧ some k ≠ (Value.slice (some ⟨g, 0, none⟩) n cap).ownBlock) p' (cs.set j u)) :
  ∃ xs', xs'.length = n ∧ d.R e (w.setCell ⟨g, i * d.sz + j, none⟩ u) base (fun _ => True) (.slice (some ⟨g, 0, none⟩) n cap) xs' ∧ w.grownBy (w.setCell ⟨g, i * d.sz + j, none⟩ u) (Value.slice (some ⟨g, 0, none⟩) n cap).ownBlock := by
 obtain ⟨xs', h1, h2, h3⟩ := R_put1 h z i j hi hj u (fun cs hc => by
  obtain ⟨p', hp'⟩ := hp cs hc
  refine ⟨p', Kd.M_step hp' (fun k hk hlt => Below.heap_setCell w _ u k (fun e2 => hk.2 ?_))⟩
  show some k = some g
  rw [e2])
 exact ⟨xs', h1, h2, h3⟩
theorem R_at0 {α : Type} {d : Kd α} {w : World} {base e n cap : Nat} {A : Option Addr} {xs : List α} (h : d.R e w base (fun _ => True) (.slice A n cap) xs) (h0 : 0 < n) : ∃ g, A = some ⟨g, 0, none⟩ ∧ base ≤ g ∧ g < w.heap.size := by
 have hn := (Kd.R_reads' h).1
 obtain ⟨g, c, hv, h1, h2⟩ := R_addr h (by omega)
 injection hv with e1 e2 e3
 exact ⟨g, e1, h1, h2⟩
theorem C_cut2 {α : Type} {d : Kd α} {w : World} {A : Option Addr} {xs : List α} (h : Kd.C d w A xs.length xs) (m : Nat) : Kd.C d w A (xs.take m).length (xs.take m) := by
 rcases Nat.le_total m xs.length with h1 | h1
 ·exact C_take h m h1
 ·rw [List.take_of_length_le h1]; exact h
theorem kSl_mk {α : Type} {d : Kd α} {e : Nat} {w : World} {x : List α} {A : Option Addr} {c : Nat} (h1 : x.length ≤ c) (h2 : Kd.C d w A x.length x) : (Kd.slice e d).K w x [.slice A x.length c] := ⟨A, c, rfl, h1, h2⟩
theorem kDlM_open {w : World} {base : Nat} {ok : Nat → Prop} {x : Dl} {cs : List Value} (h : kDl.M w base ok x cs) : ∃ v, cs = [.int .i64 x.region, .int .i64 x.adv, v] ∧ Kd.R kI2 62 w base ok v x.moves := by
 obtain ⟨_, _, rfl, rfl, ⟨_, _, rfl, rfl, ⟨v, rfl, h1⟩⟩⟩ := h
 exact ⟨v, rfl, h1⟩
theorem kDlM_mk {w : World} {base : Nat} {ok : Nat → Prop} {x : Dl} {v : Value} (h : Kd.R kI2 62 w base ok v x.moves) : kDl.M w base ok x [.int .i64 x.region, .int .i64 x.adv, v] :=
 ⟨[.int .i64 x.region], [.int .i64 x.adv, v], rfl, rfl, ⟨[.int .i64 x.adv], [v], rfl, rfl, ⟨v, rfl, h⟩⟩⟩
theorem R_lit3 {α : Type} (d : Kd α) (e : Nat) (w : World) (x y z : α) (cx cy cz : List Value) (hx : d.M (w.alloc (.cells (cx ++ cy ++ cz).toArray e)) w.heap.size (fun _ => False) x cx) (hy : d.M (w.alloc (.cells (cx ++ cy ++ cz).toArray e)) w.heap.size (fun _ => False) y cy) (hz : d.M (w.alloc (.cells (cx ++ cy ++ cz).toArray e)) w.heap.size (fun _ => False) z cz) : d.R e (w.alloc (.cells (cx ++ cy ++ cz).toArray e)) w.heap.size (fun _ => True) (.slice (some ⟨w.heap.size, 0, none⟩) 3 3) [x, y, z] := by
 have hr : Reps (fun q cs => d.M (w.alloc (.cells (cx ++ cy ++ cz).toArray e)) w.heap.size (fun _ => False) q cs) d.sz [x, y, z] (cx ++ cy ++ cz) := by
  have h1 := Reps.snoc (Reps.none (fun q cs => d.M (w.alloc (.cells (cx ++ cy ++ cz).toArray e)) w.heap.size (fun _ => False) q cs) d.sz) hx (d.K_len (d.K_of_M hx))
  have h2 := Reps.snoc h1 hy (d.K_len (d.K_of_M hy))
  have h3 := Reps.snoc h2 hz (d.K_len (d.K_of_M hz))
  simpa using h3
 exact ⟨fun _ _ => trivial, (OwnRow.lit w w.heap.size hr (Nat.le_refl _) (by simp)).imp_ fun _ _ hp => d.M_mono (fun _ h => h.elim) hp⟩
theorem R_lit1 {α : Type} (d : Kd α) (e : Nat) (w : World) (base : Nat) (hb : base ≤ w.heap.size) (x : α) (cx : List Value) (hx : d.M (w.alloc (.cells cx.toArray e)) base (fun _ => False) x cx) : d.R e (w.alloc (.cells cx.toArray e)) base (fun _ => True) (.slice (some ⟨w.heap.size, 0, none⟩) 1 1) [x] := by
 have hr : Reps (fun q cs => d.M (w.alloc (.cells cx.toArray e)) base (fun _ => False) q cs) d.sz [x] cx := by
  have h1 := Reps.snoc (Reps.none (fun q cs => d.M (w.alloc (.cells cx.toArray e)) base (fun _ => False) q cs) d.sz) hx (d.K_len (d.K_of_M hx))
  simpa using h1
 exact ⟨fun _ _ => trivial, (OwnRow.lit w base hr hb (by simp)).imp_ fun _ _ hp => d.M_mono (fun _ h => h.elim) hp⟩
/- the law's Case.made. -/
theorem res_ctt {fn : Func} {p u v : Tmp} {ty : TypeId} (h : fn.results = #[.cell p ty, .tmp u, .tmp v]) (tmps : Array Value) (w : World) (g : Nat) (t : TypeId) (cs : Array Value) (d : TypeDesc)
  (hp : tmps.getD p undef = .pointer (some ⟨g, 0, none⟩)) (hg : Blk w g cs t)
  (hd : (match d with | .struct _ | .array _ _ => true | _ => false) = true) (hu : Try.prog.underlying ty = some d) (hi : (Try.prog.info? ty).map (·.size) = some cs.size) :
  (results fn tmps).run Try.prog w = .ok (.tuple #[.agg cs, tmps.getD u undef, tmps.getD v undef]) w := by
 have hp' : tmps[p]?.getD undef = .pointer (some ⟨g, 0, none⟩) := by simpa using hp
 simp [results, h, hp', asAddr, run_loadVar_row w g t ty cs (0, 0) d hg hu (by cases d <;> first | rfl | (simp at hd)) hi]
structure CaseP (w : World) (g : Gl) (h : Hd) (rs : List (List I3)) (Ar : Option Addr) (cr : Nat) (ns : List Int) (Ba : Option Addr) (ca : Nat) (w' : World) : Prop where
 gl : GlR w' g h
 md : MdOk rs.length g
 rl : rs.length ≤ 3
 rg : ∀ x ∈ rs, regB x ns.length = true
 n1 : 1 ≤ ns.length
 n3 : ns.length ≤ 3
 nb : ∀ x ∈ ns, -64 ≤ x ∧ x ≤ 64
 rr : Kd.C kRg w' Ar rs.length rs
 rc : rs.length ≤ cr
 nn : Kd.C kI w' Ba ns.length ns
 nc : ns.length ≤ ca
 below : Below w.heap.size w w'
def oCm1.T1 : Bool × List (List Nat × List Nat) := (true, [([], []), ([0], [0]), ([1], [1]), ([2], [2]), ([3], [3]), ([], []), ([5], [5]), ([6], [6]), ([7], [7]), ([4, 0, 1, 2, 3, 4], [4]), ([8, 9, 0, 1, 2, 3, 4, 5, 6, 7, 8, 9], [8])])
def oCm1.B1 : List Nat := [0, 1, 3, 7, 15, 0, 32, 96, 224, 31, 1023]
theorem oCm1.tab1 : rtab .any (opsOf Try.f9 1) = oCm1.T1 := by kernel_rfl
theorem oCm1.bits1 : waitsOk oCm1.T1.2 oCm1.B1 = true := by kernel_rfl
def oCm2.T2 : Bool × List (List Nat × List Nat) := (true, [([], []), ([0], [0]), ([], []), ([1, 2], [1, 2]), ([], []), ([4], [4]), ([], []), ([], []), ([5, 6, 7, 3], [5, 6, 7]), ([], []), ([9], [9]), ([], []), ([10, 11, 8], [10, 11]), ([3, 12, 0, 1, 2, 3], [3]), ([8, 13, 0, 1, 2, 3, 4, 5, 6, 7, 8, 13], [8]), ([12, 14, 0, 1, 2, 3, 4, 5, 6, 7, 8, 9, 10, 11, 12, 13, 14], [12])])
def oCm2.B2 : List Nat := [0, 1, 0, 7, 0, 16, 0, 0, 255, 0, 512, 0, 4095, 8191, 16383, 32767]
theorem oCm2.tab2 : rtab .any (opsOf Try.f9 2) = oCm2.T2 := by kernel_rfl
theorem oCm2.bits2 : waitsOk oCm2.T2.2 oCm2.B2 = true := by kernel_rfl
theorem case_any (l1 l2 l3 : List Int) (A1 A2 A3 : Option Addr) (c1 c2 c3 : Nat) (o0 o1 o2 x y : Int) (w : World) (hx : 0 ≤ x ∧ x ≤ 255) (hy : 0 ≤ y ∧ y ≤ 255) (h1 : Kd.C kI w A1 l1.length l1) (h2 : Kd.C kI w A2 l2.length l2) (h3 : Kd.C kI w A3 l3.length l3) (h4 : l2.length ≤ c2) :
  Calls Try.prog 9 #[.agg #[.slice A1 l1.length c1, .slice A2 l2.length c2, .slice A3 l3.length c3, .int .i64 o0, .int .i64 o1, .int .i64 o2, .int .u8 x, .int .u8 y]] w fun e w' => ∃ (g : Gl) (h : Hd) (rs : List (List I3)) (Ar : Option Addr) (cr : Nat) (ns : List Int) (Ba : Option Addr) (ca : Nat), e = .returned (.tuple #[.agg (gv g h), .slice Ar rs.length cr, .slice Ba ns.length ca]) ∧ CaseP w g h rs Ar cr ns Ba ca w' := by
 have HC1 := lH_ h1
 have HC2 := lH_ h2
 have HC3 := lH_ h3
 have HCP := lH_ h4
 clear h1 h2 h3 h4
 go_enter Try.func9, Try.ntmps9
 go_upto_region 1 with fail
 obtain ⟨w1, g1, hw0_, hg0_, Xg1_, Yg1_, _⟩ := new_box w #[.slice A1 l1.length c1, .slice A2 l2.length c2, .slice A3 l3.length c3, .int .i64 o0, .int .i64 o1, .int .i64 o2, .int .u8 x, .int .u8 y] 33
 obtain ⟨w2, g2, hw1_, hg1_, Xg2_, Yg2_, _⟩ := new_box w1 #[.slice none 0 0, .slice none 0 0, .int .i64 0, .int .i64 0, .int .i64 0, .int .i64 0, .slice none 0 0, .slice none 0 0] 29
 have s1_ : w.heap.size + 1 = g2 := by rw [← hg1_, ← hw0_]; simp
 rw [hw0_, hw1_, s1_, hg0_]
 have Eg1 := lH_ (show g1 = w.heap.size + 0 by omega)
 have Eg2 := lH_ (show g2 = w.heap.size + 1 by omega)
 clear hw0_ hg0_ hw1_ hg1_ s1_
 have HXw2 := lH_ (bthen' (Yg1_.out) Yg2_.out)
 have Bg1 := lH_ ((Xg1_.out).below Yg2_.out)
 have Bg2 := lH_ (Xg2_.out)
 clear Xg1_ Yg1_ Xg2_ Yg2_
 have HX := HXw2
 have B1_ := Bg1
 have B2_ := Bg2
 have N12 := lH_ (show g1 ≠ g2 by have := Eg1.out; have := Eg2.out; omega)
 have LG2 := lH_ (show w.heap.size ≤ g2 by have := Eg2.out; omega)
 clear Bg1 Bg2 HXw2
 go_upto_region 1 with fail
 obtain ⟨x3, hx3⟩ : ∃ q, x.tmod 3 = q := ⟨_, rfl⟩
 have hq3 : x.tmod 3 = x % 3 := Int.tmod_eq_emod_of_nonneg (by omega)
 have hq4 : y.tmod 4 = y % 4 := Int.tmod_eq_emod_of_nonneg (by omega)
 have hx3b : 0 ≤ x3 ∧ x3 ≤ 2 := by omega
 obtain ⟨n, hn⟩ : ∃ n : Nat, x3 + 1 = (n : Int) := ⟨(x3 + 1).toNat, by omega⟩
 obtain ⟨m, hm⟩ : ∃ m : Nat, y.tmod 4 = (m : Int) := ⟨(y.tmod 4).toNat, by omega⟩
 have HN3 := lH_ (show n ≤ 3 by omega)
 have HN1 := lH_ (show 1 ≤ n by omega)
 have HM3 := lH_ (show m ≤ 3 by omega)
 have HX1 := lH_ (IntWalk.i64_in x (by omega) : IntKind.i64.wrap x = x)
 have HY1 := lH_ (IntWalk.i64_in y (by omega) : IntKind.i64.wrap y = y)
 have HX2 := lH_ hx3
 have HX3 := lH_ (IntWalk.i64_in x3 (by omega) : IntKind.i64.wrap x3 = x3)
 have HX4 := lH_ (show IntKind.i64.wrap (x3 + 1) = (n : Int) by rw [IntWalk.i64_in (x3 + 1) (by omega)]; exact hn)
 have HY2 := lH_ hm
 have HY3 := lH_ (IntWalk.i64_in (m : Int) (by omega) : IntKind.i64.wrap (m : Int) = (m : Int))
 clear hx3 hq3 hq4 hx3b hn hm hx hy
 refine start_ (n := 11) (S := fun w' => True) (ds := []) #[false, false, false, false, false, false, false, false, false, false, false] (by kernel_rfl) rfl rfl trivial (fun hHeld => ?_)
 refine with_tabW oCm1.tab1 oCm1.bits1 (fun HT_ HW_ => ?_)
 have HB : Aside0 (Below w.heap.size w w2.drew) := ⟨bdrew HX.out⟩
 have B1 : Aside0 (Blk w2.drew g1 #[.slice A1 l1.length c1, .slice A2 l2.length c2, .slice A3 l3.length c3, .int .i64 o0, .int .i64 o1, .int .i64 o2, .int .u8 x, .int .u8 y] 33) := ⟨B1_.out.drew⟩
 have B2 : Aside0 (Blk w2.drew g2 #[.slice none 0 0, .slice none 0 0, .int .i64 0, .int .i64 0, .int .i64 0, .int .i64 0, .slice none 0 0, .slice none 0 0] 29) := ⟨B2_.out.drew⟩
 generalize hwd : w2.drew = w1' at *
 clear hwd
 refine inv_at [0, 1, 2, 3, 4, 5, 6, 7, 8, 9, 10] (fun a0_ b a w' => a = putSel a0_ b [(0, 7, .pointer (some ⟨g1, 6, none⟩)), (1, 8, .int .u8 x), (2, 9, .int .i64 x), (3, 10, .int .i64 x3), (4, 11, .int .i64 (n : Int)), (5, 12, .pointer (some ⟨g1, 7, none⟩)), (6, 13, .int .u8 y), (7, 14, .int .i64 y), (8, 15, .int .i64 (m : Int)), (9, 5, .int .i64 (n : Int)), (10, 6, .int .i64 (m : Int))] ∧ (Below w.heap.size w w') ∧ (Blk w' g1 #[.slice A1 l1.length c1, .slice A2 l2.length c2, .slice A3 l3.length c3, .int .i64 o0, .int .i64 o1, .int .i64 o2, .int .u8 x, .int .u8 y] 33) ∧ (Blk w' g2 #[.slice none 0 0, .slice none 0 0, .int .i64 0, .int .i64 0, .int .i64 0, .int .i64 0, .slice none 0 0, .slice none 0 0] 29)) HT_.out HW_.out (by kernel_rfl) (by kernel_rfl) ?_ ?_ ?_
 ·exact ⟨by simp only [putSel, Bool.false_eq_true, if_false], HB.out, B1.out, B2.out⟩
 ·skip
  clear B1 B2 HB
  refine steps_cons ?_ ?_
  ·rintro b a w' ⟨ha, QHB, QB1, QB2⟩ hb_ hon hoff
   refine ⟨_, rfl, fun K hK => ?_⟩
   have e1 : a.tmps[1]? = some (.pointer (some ⟨g1, 0, none⟩)) := by rw [ha]; exact (putSel_off rfl).trans rfl
   replace ha := aM_ ha
   have HB := aM_ QHB
   have B1 := aM_ QB1
   have B2 := aM_ QB2
   refine value_ (w1 := w') (v := .pointer (some ⟨g1, 6, none⟩)) (by rfl) rfl ?_ ?_
   ·go_simp
    (try simp only [i64_w])
    try rfl
    try assumption
   refine hK.out _ _ ⟨(by rw [ha.out]; exact putSel_upk 0 hb_ rfl rfl rfl), QHB, QB1, QB2⟩
  refine steps_cons ?_ ?_
  ·rintro b a w' ⟨ha, QHB, QB1, QB2⟩ hb_ hon hoff
   refine ⟨_, rfl, fun K hK => ?_⟩
   have e7 : a.tmps[7]? = some (.pointer (some ⟨g1, 6, none⟩)) := by rw [ha]; exact putSel_on (e := (0, 7, .pointer (some ⟨g1, 6, none⟩))) 0 rfl rfl (hon 0 rfl) rfl
   replace ha := aM_ ha
   have HB := aM_ QHB
   have B1 := aM_ QB1
   have B2 := aM_ QB2
   have z := B1.out.cell 6
   refine value_ (w1 := w') (v := .int .u8 x) (by rfl) rfl ?_ ?_
   ·go_simp
    (try simp only [i64_w])
    try rfl
    try assumption
   refine hK.out _ _ ⟨(by rw [ha.out]; exact putSel_upk 1 hb_ rfl rfl rfl), QHB, QB1, QB2⟩
  refine steps_cons ?_ ?_
  ·rintro b a w' ⟨ha, QHB, QB1, QB2⟩ hb_ hon hoff
   refine ⟨_, rfl, fun K hK => ?_⟩
   have e8 : a.tmps[8]? = some (.int .u8 x) := by rw [ha]; exact putSel_on (e := (1, 8, .int .u8 x)) 1 rfl rfl (hon 1 rfl) rfl
   replace ha := aM_ ha
   have HB := aM_ QHB
   have B1 := aM_ QB1
   have B2 := aM_ QB2
   have z := HX1.out
   refine value_ (w1 := w') (v := .int .i64 x) (by rfl) rfl ?_ ?_
   ·go_simp
    (try simp only [i64_w])
    try rfl
    try assumption
   refine hK.out _ _ ⟨(by rw [ha.out]; exact putSel_upk 2 hb_ rfl rfl rfl), QHB, QB1, QB2⟩
  refine steps_cons ?_ ?_
  ·rintro b a w' ⟨ha, QHB, QB1, QB2⟩ hb_ hon hoff
   refine ⟨_, rfl, fun K hK => ?_⟩
   have e9 : a.tmps[9]? = some (.int .i64 x) := by rw [ha]; exact putSel_on (e := (2, 9, .int .i64 x)) 2 rfl rfl (hon 2 rfl) rfl
   replace ha := aM_ ha
   have HB := aM_ QHB
   have B1 := aM_ QB1
   have B2 := aM_ QB2
   have z := HX2.out
   have z2 := HX3.out
   refine value_ (w1 := w') (v := .int .i64 x3) (by rfl) rfl ?_ ?_
   ·go_simp
    (try simp only [i64_w])
    try rfl
    try assumption
   refine hK.out _ _ ⟨(by rw [ha.out]; exact putSel_upk 3 hb_ rfl rfl rfl), QHB, QB1, QB2⟩
  refine steps_cons ?_ ?_
  ·rintro b a w' ⟨ha, QHB, QB1, QB2⟩ hb_ hon hoff
   refine ⟨_, rfl, fun K hK => ?_⟩
   have e10 : a.tmps[10]? = some (.int .i64 x3) := by rw [ha]; exact putSel_on (e := (3, 10, .int .i64 x3)) 3 rfl rfl (hon 3 rfl) rfl
   replace ha := aM_ ha
   have HB := aM_ QHB
   have B1 := aM_ QB1
   have B2 := aM_ QB2
   have z := HX4.out
   refine value_ (w1 := w') (v := .int .i64 (n : Int)) (by rfl) rfl ?_ ?_
   ·go_simp
    (try simp only [i64_w])
    try rfl
    try assumption
   refine hK.out _ _ ⟨(by rw [ha.out]; exact putSel_upk 4 hb_ rfl rfl rfl), QHB, QB1, QB2⟩
  refine steps_cons ?_ ?_
  ·rintro b a w' ⟨ha, QHB, QB1, QB2⟩ hb_ hon hoff
   refine ⟨_, rfl, fun K hK => ?_⟩
   have e1 : a.tmps[1]? = some (.pointer (some ⟨g1, 0, none⟩)) := by rw [ha]; exact (putSel_off rfl).trans rfl
   replace ha := aM_ ha
   have HB := aM_ QHB
   have B1 := aM_ QB1
   have B2 := aM_ QB2
   refine value_ (w1 := w') (v := .pointer (some ⟨g1, 7, none⟩)) (by rfl) rfl ?_ ?_
   ·go_simp
    (try simp only [i64_w])
    try rfl
    try assumption
   refine hK.out _ _ ⟨(by rw [ha.out]; exact putSel_upk 5 hb_ rfl rfl rfl), QHB, QB1, QB2⟩
  refine steps_cons ?_ ?_
  ·rintro b a w' ⟨ha, QHB, QB1, QB2⟩ hb_ hon hoff
   refine ⟨_, rfl, fun K hK => ?_⟩
   have e12 : a.tmps[12]? = some (.pointer (some ⟨g1, 7, none⟩)) := by rw [ha]; exact putSel_on (e := (5, 12, .pointer (some ⟨g1, 7, none⟩))) 5 rfl rfl (hon 5 rfl) rfl
   replace ha := aM_ ha
   have HB := aM_ QHB
   have B1 := aM_ QB1
   have B2 := aM_ QB2
   have z := B1.out.cell 7
   refine value_ (w1 := w') (v := .int .u8 y) (by rfl) rfl ?_ ?_
   ·go_simp
    (try simp only [i64_w])
    try rfl
    try assumption
   refine hK.out _ _ ⟨(by rw [ha.out]; exact putSel_upk 6 hb_ rfl rfl rfl), QHB, QB1, QB2⟩
  refine steps_cons ?_ ?_
  ·rintro b a w' ⟨ha, QHB, QB1, QB2⟩ hb_ hon hoff
   refine ⟨_, rfl, fun K hK => ?_⟩
   have e13 : a.tmps[13]? = some (.int .u8 y) := by rw [ha]; exact putSel_on (e := (6, 13, .int .u8 y)) 6 rfl rfl (hon 6 rfl) rfl
   replace ha := aM_ ha
   have HB := aM_ QHB
   have B1 := aM_ QB1
   have B2 := aM_ QB2
   have z := HY1.out
   refine value_ (w1 := w') (v := .int .i64 y) (by rfl) rfl ?_ ?_
   ·go_simp
    (try simp only [i64_w])
    try rfl
    try assumption
   refine hK.out _ _ ⟨(by rw [ha.out]; exact putSel_upk 7 hb_ rfl rfl rfl), QHB, QB1, QB2⟩
  refine steps_cons ?_ ?_
  ·rintro b a w' ⟨ha, QHB, QB1, QB2⟩ hb_ hon hoff
   refine ⟨_, rfl, fun K hK => ?_⟩
   have e14 : a.tmps[14]? = some (.int .i64 y) := by rw [ha]; exact putSel_on (e := (7, 14, .int .i64 y)) 7 rfl rfl (hon 7 rfl) rfl
   replace ha := aM_ ha
   have HB := aM_ QHB
   have B1 := aM_ QB1
   have B2 := aM_ QB2
   have z := HY2.out
   have z2 := HY3.out
   refine value_ (w1 := w') (v := .int .i64 (m : Int)) (by rfl) rfl ?_ ?_
   ·go_simp
    (try simp only [i64_w])
    try rfl
    try assumption
   refine hK.out _ _ ⟨(by rw [ha.out]; exact putSel_upk 8 hb_ rfl rfl rfl), QHB, QB1, QB2⟩
  refine steps_cons ?_ ?_
  ·rintro b a w' ⟨ha, QHB, QB1, QB2⟩ hb_ hon hoff
   refine ⟨_, rfl, fun K hK => ?_⟩
   have e11 : a.tmps[11]? = some (.int .i64 (n : Int)) := by rw [ha]; exact putSel_on (e := (4, 11, .int .i64 (n : Int))) 4 rfl rfl (hon 4 rfl) rfl
   replace ha := aM_ ha
   have HB := aM_ QHB
   have B1 := aM_ QB1
   have B2 := aM_ QB2
   refine value_ (w1 := w') (v := .int .i64 (n : Int)) (by rfl) rfl ?_ ?_
   ·go_simp
    (try simp only [i64_w])
    try rfl
    try assumption
   refine hK.out _ _ ⟨(by rw [ha.out]; exact putSel_upk 9 hb_ rfl rfl rfl), QHB, QB1, QB2⟩
  refine steps_cons ?_ ?_
  ·rintro b a w' ⟨ha, QHB, QB1, QB2⟩ hb_ hon hoff
   refine ⟨_, rfl, fun K hK => ?_⟩
   have e15 : a.tmps[15]? = some (.int .i64 (m : Int)) := by rw [ha]; exact putSel_on (e := (8, 15, .int .i64 (m : Int))) 8 rfl rfl (hon 8 rfl) rfl
   replace ha := aM_ ha
   have HB := aM_ QHB
   have B1 := aM_ QB1
   have B2 := aM_ QB2
   refine value_ (w1 := w') (v := .int .i64 (m : Int)) (by rfl) rfl ?_ ?_
   ·go_simp
    (try simp only [i64_w])
    try rfl
    try assumption
   refine hK.out _ _ ⟨(by rw [ha.out]; exact putSel_upk 10 hb_ rfl rfl rfl), QHB, QB1, QB2⟩
  exact steps_nil
 ·rintro b a w' hall ⟨ha, QHB, QB1, QB2⟩
  clear B1 B2 HB
  have hb0_ := hall 0 (by kernel_rfl)
  have hb1_ := hall 1 (by kernel_rfl)
  have hb2_ := hall 2 (by kernel_rfl)
  have hb3_ := hall 3 (by kernel_rfl)
  have hb4_ := hall 4 (by kernel_rfl)
  have hb5_ := hall 5 (by kernel_rfl)
  have hb6_ := hall 6 (by kernel_rfl)
  have hb7_ := hall 7 (by kernel_rfl)
  have hb8_ := hall 8 (by kernel_rfl)
  have hb9_ := hall 9 (by kernel_rfl)
  have hb10_ := hall 10 (by kernel_rfl)
  subst ha
  simp only [putSel, hb0_, hb1_, hb2_, hb3_, hb4_, hb5_, hb6_, hb7_, hb8_, hb9_, hb10_, if_true, Act.put, List.setIfInBounds_toArray, List.set_cons_zero, List.set_cons_succ]
  have HB := aM_ QHB
  clear QHB
  have B1 := aM_ QB1
  clear QB1
  have B2 := aM_ QB2
  clear QB2
  clear hall hb0_ hb1_ hb2_ hb3_ hb4_ hb5_ hb6_ hb7_ hb8_ hb9_ hb10_
  generalize w' = w3 at *
  have HX5 := lH_ HB.out
  replace B1_ := lH_ B1.out
  replace B2_ := lH_ B2.out
  clear HB B1 B2 HX
  go_upto_region 2 with fail
  refine start_ (n := 16) (S := fun w' => True) (ds := []) #[false, false, false, false, false, false, false, false, false, false, false, false, false, false, false, false] (by kernel_rfl) rfl rfl trivial (fun hHeld => ?_)
  refine with_tabW oCm2.tab2 oCm2.bits2 (fun HT_ HW_ => ?_)
  have HB : Aside0 (Below w.heap.size w w3.drew) := ⟨bdrew HX5.out⟩
  have B1 : Aside0 (Blk w3.drew g1 #[.slice A1 l1.length c1, .slice A2 l2.length c2, .slice A3 l3.length c3, .int .i64 o0, .int .i64 o1, .int .i64 o2, .int .u8 x, .int .u8 y] 33) := ⟨B1_.out.drew⟩
  have B2 : Aside0 (Blk w3.drew g2 #[.slice none 0 0, .slice none 0 0, .int .i64 0, .int .i64 0, .int .i64 0, .int .i64 0, .slice none 0 0, .slice none 0 0] 29) := ⟨B2_.out.drew⟩
  generalize hwd : w3.drew = w1' at *
  clear hwd
  refine inv_at [0, 1, 2, 3, 4, 5, 6, 7, 8, 9, 10, 11, 12, 13, 14, 15] (fun a0_ b a w' => ∃ (g : Gl) (h : Hd) (rs : List (List I3)) (Ar : Option Addr) (cr : Nat) (ns : List Int) (Ba : Option Addr) (ca : Nat) (m3_ : Value) (m8_ : Value) (m12_ : Value) (m14_ : Value) (m15_ : Value), a = putSel a0_ b [(0, 16, .pointer (some ⟨g1, 0, none⟩)), (1, 17, .slice A1 l1.length c1), (2, 18, .int .i64 (m : Int)), (3, 19, m3_), (4, 20, .pointer (some ⟨g1, 1, none⟩)), (5, 21, .slice A2 l2.length c2), (6, 22, .int .i64 (n : Int)), (7, 23, .int .i64 (m : Int)), (8, 24, m8_), (9, 25, .pointer (some ⟨g1, 2, none⟩)), (10, 26, .slice A3 l3.length c3), (11, 27, .int .i64 (n : Int)), (12, 28, m12_), (14, 3, m14_), (15, 4, m15_)] ∧ (Below w.heap.size w w') ∧ (Blk w' g1 #[.slice A1 l1.length c1, .slice A2 l2.length c2, .slice A3 l3.length c3, .int .i64 o0, .int .i64 o1, .int .i64 o2, .int .u8 x, .int .u8 y] 33) ∧ (b 13 = false → Blk w' g2 #[.slice none 0 0, .slice none 0 0, .int .i64 0, .int .i64 0, .int .i64 0, .int .i64 0, .slice none 0 0, .slice none 0 0] 29) ∧ (b 3 = true → GlO w' w.heap.size g h) ∧ (b 3 = true → MdOk m g) ∧ (b 8 = true → Kd.R kRg 46 w' w.heap.size (fun _ => True) (.slice Ar rs.length cr) rs) ∧ (b 8 = true → rs.length = m ∧ (∀ x ∈ rs, regB x n = true)) ∧ (b 12 = true → Kd.R kI 3 w' w.heap.size (fun _ => True) (.slice Ba ns.length ca) ns) ∧ (b 12 = true → ns.length = n ∧ (∀ x ∈ ns, -64 ≤ x ∧ x ≤ 64) ∧ ns.length ≤ ca) ∧ (b 13 = true → Blk w' g2 #[.slice h.a1 g.ct.length h.c1, .slice h.a2 g.an.length h.c2, .int .i64 g.hang.a, .int .i64 g.hang.b, .int .i64 g.hang.c, .int .i64 g.adv, .slice h.a3 g.dl.length h.c3, .slice h.a4 g.pr.length h.c4] 29) ∧ (b 3 = true → (m3_ : Value) = .agg #[.slice h.a1 g.ct.length h.c1, .slice h.a2 g.an.length h.c2, .int .i64 g.hang.a, .int .i64 g.hang.b, .int .i64 g.hang.c, .int .i64 g.adv, .slice h.a3 g.dl.length h.c3, .slice h.a4 g.pr.length h.c4]) ∧ (b 8 = true → (m8_ : Value) = .slice Ar rs.length cr) ∧ (b 12 = true → (m12_ : Value) = .slice Ba ns.length ca) ∧ (b 14 = true → (m14_ : Value) = .slice Ar rs.length cr) ∧ (b 15 = true → (m15_ : Value) = .slice Ba ns.length ca)) HT_.out HW_.out (by kernel_rfl) (by kernel_rfl) ?_ ?_ ?_
  ·exact ⟨⟨[], [], zI3, 0, [], []⟩, ⟨none, 0, none, 0, none, 0, none, 0⟩, [], none, 0, [], none, 0, .bool false, .bool false, .bool false, .bool false, .bool false, by simp only [putSel, Bool.false_eq_true, if_false], HB.out, B1.out, fun _ => B2.out, fun h_ => absurd h_ (by decide), fun h_ => absurd h_ (by decide), fun h_ => absurd h_ (by decide), fun h_ => absurd h_ (by decide), fun h_ => absurd h_ (by decide), fun h_ => absurd h_ (by decide), fun h_ => absurd h_ (by decide), fun h_ => absurd h_ (by decide), fun h_ => absurd h_ (by decide), fun h_ => absurd h_ (by decide), fun h_ => absurd h_ (by decide), fun h_ => absurd h_ (by decide)⟩
  ·skip
   clear B1 B2 HB
   refine steps_cons ?_ ?_
   ·rintro b a w' ⟨g, h, rs, Ar, cr, ns, Ba, ca, m3_, m8_, m12_, m14_, m15_, ha, QHB, QB1, QB2, QGO, QGM, QRR, QRP, QRN, QNP, QB3, QX3_, QX8_, QX12_, QX14_, QX15_⟩ hb_ hon hoff
    refine ⟨_, rfl, fun K hK => ?_⟩
    have e1 : a.tmps[1]? = some (.pointer (some ⟨g1, 0, none⟩)) := by rw [ha]; exact (putSel_off rfl).trans rfl
    replace ha := aM_ ha
    have HB := aM_ QHB
    have B1 := aM_ QB1
    have B2 := aM_ (QB2 (hoff 13 rfl))
    refine value_ (w1 := w') (v := .pointer (some ⟨g1, 0, none⟩)) (by rfl) rfl ?_ ?_
    ·go_simp
     (try simp only [i64_w])
     try rfl
     try assumption
    refine hK.out _ _ ⟨g, h, rs, Ar, cr, ns, Ba, ca, m3_, m8_, m12_, m14_, m15_, (by rw [ha.out]; exact putSel_upk 0 hb_ rfl rfl rfl), QHB, QB1, QB2, dD_ (hoff 3 rfl), dD_ (hoff 3 rfl), dD_ (hoff 8 rfl), dD_ (hoff 8 rfl), dD_ (hoff 12 rfl), dD_ (hoff 12 rfl), dD_ (hoff 13 rfl), dD_ (hoff 3 rfl), dD_ (hoff 8 rfl), dD_ (hoff 12 rfl), dD_ (hoff 14 rfl), dD_ (hoff 15 rfl)⟩
   refine steps_cons ?_ ?_
   ·rintro b a w' ⟨g, h, rs, Ar, cr, ns, Ba, ca, m3_, m8_, m12_, m14_, m15_, ha, QHB, QB1, QB2, QGO, QGM, QRR, QRP, QRN, QNP, QB3, QX3_, QX8_, QX12_, QX14_, QX15_⟩ hb_ hon hoff
    refine ⟨_, rfl, fun K hK => ?_⟩
    have e16 : a.tmps[16]? = some (.pointer (some ⟨g1, 0, none⟩)) := by rw [ha]; exact putSel_on (e := (0, 16, .pointer (some ⟨g1, 0, none⟩))) 0 rfl rfl (hon 0 rfl) rfl
    replace ha := aM_ ha
    have HB := aM_ QHB
    have B1 := aM_ QB1
    have B2 := aM_ (QB2 (hoff 13 rfl))
    have z := B1.out.cell 0
    refine value_ (w1 := w') (v := .slice A1 l1.length c1) (by rfl) rfl ?_ ?_
    ·go_simp
     (try simp only [i64_w])
     try rfl
     try assumption
    refine hK.out _ _ ⟨g, h, rs, Ar, cr, ns, Ba, ca, m3_, m8_, m12_, m14_, m15_, (by rw [ha.out]; exact putSel_upk 1 hb_ rfl rfl rfl), QHB, QB1, QB2, dD_ (hoff 3 rfl), dD_ (hoff 3 rfl), dD_ (hoff 8 rfl), dD_ (hoff 8 rfl), dD_ (hoff 12 rfl), dD_ (hoff 12 rfl), dD_ (hoff 13 rfl), dD_ (hoff 3 rfl), dD_ (hoff 8 rfl), dD_ (hoff 12 rfl), dD_ (hoff 14 rfl), dD_ (hoff 15 rfl)⟩
   refine steps_cons ?_ ?_
   ·rintro b a w' ⟨g, h, rs, Ar, cr, ns, Ba, ca, m3_, m8_, m12_, m14_, m15_, ha, QHB, QB1, QB2, QGO, QGM, QRR, QRP, QRN, QNP, QB3, QX3_, QX8_, QX12_, QX14_, QX15_⟩ hb_ hon hoff
    refine ⟨_, rfl, fun K hK => ?_⟩
    have e6 : a.tmps[6]? = some (.int .i64 (m : Int)) := by rw [ha]; exact (putSel_off rfl).trans rfl
    replace ha := aM_ ha
    have HB := aM_ QHB
    have B1 := aM_ QB1
    have B2 := aM_ (QB2 (hoff 13 rfl))
    refine value_ (w1 := w') (v := .int .i64 (m : Int)) (by rfl) rfl ?_ ?_
    ·go_simp
     (try simp only [i64_w])
     try rfl
     try assumption
    refine hK.out _ _ ⟨g, h, rs, Ar, cr, ns, Ba, ca, m3_, m8_, m12_, m14_, m15_, (by rw [ha.out]; exact putSel_upk 2 hb_ rfl rfl rfl), QHB, QB1, QB2, dD_ (hoff 3 rfl), dD_ (hoff 3 rfl), dD_ (hoff 8 rfl), dD_ (hoff 8 rfl), dD_ (hoff 12 rfl), dD_ (hoff 12 rfl), dD_ (hoff 13 rfl), dD_ (hoff 3 rfl), dD_ (hoff 8 rfl), dD_ (hoff 12 rfl), dD_ (hoff 14 rfl), dD_ (hoff 15 rfl)⟩
   refine steps_cons ?_ ?_
   ·rintro b a w' ⟨g, h, rs, Ar, cr, ns, Ba, ca, m3_, m8_, m12_, m14_, m15_, ha, QHB, QB1, QB2, QGO, QGM, QRR, QRP, QRN, QNP, QB3, QX3_, QX8_, QX12_, QX14_, QX15_⟩ hb_ hon hoff
    refine ⟨_, rfl, fun K hK => ?_⟩
    have e17 : a.tmps[17]? = some (.slice A1 l1.length c1) := by rw [ha]; exact putSel_on (e := (1, 17, .slice A1 l1.length c1)) 1 rfl rfl (hon 1 rfl) rfl
    have e18 : a.tmps[18]? = some (.int .i64 (m : Int)) := by rw [ha]; exact putSel_on (e := (2, 18, .int .i64 (m : Int))) 2 rfl rfl (hon 2 rfl) rfl
    replace ha := aM_ ha
    have HB := aM_ QHB
    have B1 := aM_ QB1
    have B2 := aM_ (QB2 (hoff 13 rfl))
    refine call_ 24 #[.slice A1 l1.length c1, .int .i64 (m : Int)] (by rfl) rfl ?_ ?_
    ·go_simp
    refine (made_any l1 A1 c1 m w' HM3.out (Kd.C_below HC1.out HB.out)).mono ?_
    rintro e w2' ⟨g0, h0, rfl, go0, gm0, hb⟩
    refine ⟨_, rfl, ?_⟩
    refine hK.out _ _ ⟨g0, h0, rs, Ar, cr, ns, Ba, ca, (.agg #[.slice h0.a1 g0.ct.length h0.c1, .slice h0.a2 g0.an.length h0.c2, .int .i64 g0.hang.a, .int .i64 g0.hang.b, .int .i64 g0.hang.c, .int .i64 g0.adv, .slice h0.a3 g0.dl.length h0.c3, .slice h0.a4 g0.pr.length h0.c4]), m8_, m12_, m14_, m15_, (by rw [ha.out]; exact putSel_upk 3 hb_ rfl rfl rfl), bthen' HB.out hb, B1.out.below hb, fun _ => B2.out.below hb, fun _ => go0.lower HB.out.size, fun _ => gm0, dD_ (hoff 8 rfl), dD_ (hoff 8 rfl), dD_ (hoff 12 rfl), dD_ (hoff 12 rfl), dD_ (hoff 13 rfl), fun _ => rfl, dD_ (hoff 8 rfl), dD_ (hoff 12 rfl), dD_ (hoff 14 rfl), dD_ (hoff 15 rfl)⟩
   refine steps_cons ?_ ?_
   ·rintro b a w' ⟨g, h, rs, Ar, cr, ns, Ba, ca, m3_, m8_, m12_, m14_, m15_, ha, QHB, QB1, QB2, QGO, QGM, QRR, QRP, QRN, QNP, QB3, QX3_, QX8_, QX12_, QX14_, QX15_⟩ hb_ hon hoff
    refine ⟨_, rfl, fun K hK => ?_⟩
    have e1 : a.tmps[1]? = some (.pointer (some ⟨g1, 0, none⟩)) := by rw [ha]; exact (putSel_off rfl).trans rfl
    replace ha := aM_ ha
    have HB := aM_ QHB
    have B1 := aM_ QB1
    have B2 := aM_ (QB2 (hoff 13 rfl))
    refine value_ (w1 := w') (v := .pointer (some ⟨g1, 1, none⟩)) (by rfl) rfl ?_ ?_
    ·go_simp
     (try simp only [i64_w])
     try rfl
     try assumption
    refine hK.out _ _ ⟨g, h, rs, Ar, cr, ns, Ba, ca, m3_, m8_, m12_, m14_, m15_, (by rw [ha.out]; exact putSel_upk 4 hb_ rfl rfl rfl), QHB, QB1, QB2, QGO, QGM, dD_ (hoff 8 rfl), dD_ (hoff 8 rfl), dD_ (hoff 12 rfl), dD_ (hoff 12 rfl), dD_ (hoff 13 rfl), QX3_, dD_ (hoff 8 rfl), dD_ (hoff 12 rfl), dD_ (hoff 14 rfl), dD_ (hoff 15 rfl)⟩
   refine steps_cons ?_ ?_
   ·rintro b a w' ⟨g, h, rs, Ar, cr, ns, Ba, ca, m3_, m8_, m12_, m14_, m15_, ha, QHB, QB1, QB2, QGO, QGM, QRR, QRP, QRN, QNP, QB3, QX3_, QX8_, QX12_, QX14_, QX15_⟩ hb_ hon hoff
    refine ⟨_, rfl, fun K hK => ?_⟩
    have e20 : a.tmps[20]? = some (.pointer (some ⟨g1, 1, none⟩)) := by rw [ha]; exact putSel_on (e := (4, 20, .pointer (some ⟨g1, 1, none⟩))) 4 rfl rfl (hon 4 rfl) rfl
    replace ha := aM_ ha
    have HB := aM_ QHB
    have B1 := aM_ QB1
    have B2 := aM_ (QB2 (hoff 13 rfl))
    have z := B1.out.cell 1
    refine value_ (w1 := w') (v := .slice A2 l2.length c2) (by rfl) rfl ?_ ?_
    ·go_simp
     (try simp only [i64_w])
     try rfl
     try assumption
    refine hK.out _ _ ⟨g, h, rs, Ar, cr, ns, Ba, ca, m3_, m8_, m12_, m14_, m15_, (by rw [ha.out]; exact putSel_upk 5 hb_ rfl rfl rfl), QHB, QB1, QB2, QGO, QGM, dD_ (hoff 8 rfl), dD_ (hoff 8 rfl), dD_ (hoff 12 rfl), dD_ (hoff 12 rfl), dD_ (hoff 13 rfl), QX3_, dD_ (hoff 8 rfl), dD_ (hoff 12 rfl), dD_ (hoff 14 rfl), dD_ (hoff 15 rfl)⟩
   refine steps_cons ?_ ?_
   ·rintro b a w' ⟨g, h, rs, Ar, cr, ns, Ba, ca, m3_, m8_, m12_, m14_, m15_, ha, QHB, QB1, QB2, QGO, QGM, QRR, QRP, QRN, QNP, QB3, QX3_, QX8_, QX12_, QX14_, QX15_⟩ hb_ hon hoff
    refine ⟨_, rfl, fun K hK => ?_⟩
    have e5 : a.tmps[5]? = some (.int .i64 (n : Int)) := by rw [ha]; exact (putSel_off rfl).trans rfl
    replace ha := aM_ ha
    have HB := aM_ QHB
    have B1 := aM_ QB1
    have B2 := aM_ (QB2 (hoff 13 rfl))
    refine value_ (w1 := w') (v := .int .i64 (n : Int)) (by rfl) rfl ?_ ?_
    ·go_simp
     (try simp only [i64_w])
     try rfl
     try assumption
    refine hK.out _ _ ⟨g, h, rs, Ar, cr, ns, Ba, ca, m3_, m8_, m12_, m14_, m15_, (by rw [ha.out]; exact putSel_upk 6 hb_ rfl rfl rfl), QHB, QB1, QB2, QGO, QGM, dD_ (hoff 8 rfl), dD_ (hoff 8 rfl), dD_ (hoff 12 rfl), dD_ (hoff 12 rfl), dD_ (hoff 13 rfl), QX3_, dD_ (hoff 8 rfl), dD_ (hoff 12 rfl), dD_ (hoff 14 rfl), dD_ (hoff 15 rfl)⟩
   refine steps_cons ?_ ?_
   ·rintro b a w' ⟨g, h, rs, Ar, cr, ns, Ba, ca, m3_, m8_, m12_, m14_, m15_, ha, QHB, QB1, QB2, QGO, QGM, QRR, QRP, QRN, QNP, QB3, QX3_, QX8_, QX12_, QX14_, QX15_⟩ hb_ hon hoff
    refine ⟨_, rfl, fun K hK => ?_⟩
    have e6 : a.tmps[6]? = some (.int .i64 (m : Int)) := by rw [ha]; exact (putSel_off rfl).trans rfl
    replace ha := aM_ ha
    have HB := aM_ QHB
    have B1 := aM_ QB1
    have B2 := aM_ (QB2 (hoff 13 rfl))
    refine value_ (w1 := w') (v := .int .i64 (m : Int)) (by rfl) rfl ?_ ?_
    ·go_simp
     (try simp only [i64_w])
     try rfl
     try assumption
    refine hK.out _ _ ⟨g, h, rs, Ar, cr, ns, Ba, ca, m3_, m8_, m12_, m14_, m15_, (by rw [ha.out]; exact putSel_upk 7 hb_ rfl rfl rfl), QHB, QB1, QB2, QGO, QGM, dD_ (hoff 8 rfl), dD_ (hoff 8 rfl), dD_ (hoff 12 rfl), dD_ (hoff 12 rfl), dD_ (hoff 13 rfl), QX3_, dD_ (hoff 8 rfl), dD_ (hoff 12 rfl), dD_ (hoff 14 rfl), dD_ (hoff 15 rfl)⟩
   refine steps_cons ?_ ?_
   ·rintro b a w' ⟨g, h, rs, Ar, cr, ns, Ba, ca, m3_, m8_, m12_, m14_, m15_, ha, QHB, QB1, QB2, QGO, QGM, QRR, QRP, QRN, QNP, QB3, QX3_, QX8_, QX12_, QX14_, QX15_⟩ hb_ hon hoff
    refine ⟨_, rfl, fun K hK => ?_⟩
    have e21 : a.tmps[21]? = some (.slice A2 l2.length c2) := by rw [ha]; exact putSel_on (e := (5, 21, .slice A2 l2.length c2)) 5 rfl rfl (hon 5 rfl) rfl
    have e22 : a.tmps[22]? = some (.int .i64 (n : Int)) := by rw [ha]; exact putSel_on (e := (6, 22, .int .i64 (n : Int))) 6 rfl rfl (hon 6 rfl) rfl
    have e23 : a.tmps[23]? = some (.int .i64 (m : Int)) := by rw [ha]; exact putSel_on (e := (7, 23, .int .i64 (m : Int))) 7 rfl rfl (hon 7 rfl) rfl
    replace ha := aM_ ha
    have HB := aM_ QHB
    have B1 := aM_ QB1
    have B2 := aM_ (QB2 (hoff 13 rfl))
    have GO := aM_ (QGO (hon 3 rfl))
    have GM := aM_ (QGM (hon 3 rfl))
    refine call_ 25 #[.slice A2 l2.length c2, .int .i64 (n : Int), .int .i64 (m : Int)] (by rfl) rfl ?_ ?_
    ·go_simp
    refine (regions_any l2 A2 c2 n m w' HN3.out HM3.out (Kd.C_below HC2.out HB.out) HCP.out).mono ?_
    rintro e w2' ⟨rs0, v0, hrl, hrb, rfl, hrr, hb⟩
    obtain ⟨Ar0, cr0, rfl⟩ := Kd.R_slice hrr
    refine ⟨_, rfl, ?_⟩
    refine hK.out _ _ ⟨g, h, rs0, Ar0, cr0, ns, Ba, ca, m3_, (.slice Ar0 rs0.length cr0), m12_, m14_, m15_, (by rw [ha.out]; exact putSel_upk 8 hb_ rfl rfl rfl), bthen' HB.out hb, B1.out.below hb, fun _ => B2.out.below hb, fun _ => GO.out.below hb, QGM, fun _ => Kd.R_lower hrr HB.out.size, fun _ => ⟨hrl, hrb⟩, dD_ (hoff 12 rfl), dD_ (hoff 12 rfl), dD_ (hoff 13 rfl), QX3_, fun _ => rfl, dD_ (hoff 12 rfl), dD_ (hoff 14 rfl), dD_ (hoff 15 rfl)⟩
   refine steps_cons ?_ ?_
   ·rintro b a w' ⟨g, h, rs, Ar, cr, ns, Ba, ca, m3_, m8_, m12_, m14_, m15_, ha, QHB, QB1, QB2, QGO, QGM, QRR, QRP, QRN, QNP, QB3, QX3_, QX8_, QX12_, QX14_, QX15_⟩ hb_ hon hoff
    refine ⟨_, rfl, fun K hK => ?_⟩
    have e1 : a.tmps[1]? = some (.pointer (some ⟨g1, 0, none⟩)) := by rw [ha]; exact (putSel_off rfl).trans rfl
    replace ha := aM_ ha
    have HB := aM_ QHB
    have B1 := aM_ QB1
    have B2 := aM_ (QB2 (hoff 13 rfl))
    refine value_ (w1 := w') (v := .pointer (some ⟨g1, 2, none⟩)) (by rfl) rfl ?_ ?_
    ·go_simp
     (try simp only [i64_w])
     try rfl
     try assumption
    refine hK.out _ _ ⟨g, h, rs, Ar, cr, ns, Ba, ca, m3_, m8_, m12_, m14_, m15_, (by rw [ha.out]; exact putSel_upk 9 hb_ rfl rfl rfl), QHB, QB1, QB2, QGO, QGM, QRR, QRP, dD_ (hoff 12 rfl), dD_ (hoff 12 rfl), dD_ (hoff 13 rfl), QX3_, QX8_, dD_ (hoff 12 rfl), dD_ (hoff 14 rfl), dD_ (hoff 15 rfl)⟩
   refine steps_cons ?_ ?_
   ·rintro b a w' ⟨g, h, rs, Ar, cr, ns, Ba, ca, m3_, m8_, m12_, m14_, m15_, ha, QHB, QB1, QB2, QGO, QGM, QRR, QRP, QRN, QNP, QB3, QX3_, QX8_, QX12_, QX14_, QX15_⟩ hb_ hon hoff
    refine ⟨_, rfl, fun K hK => ?_⟩
    have e25 : a.tmps[25]? = some (.pointer (some ⟨g1, 2, none⟩)) := by rw [ha]; exact putSel_on (e := (9, 25, .pointer (some ⟨g1, 2, none⟩))) 9 rfl rfl (hon 9 rfl) rfl
    replace ha := aM_ ha
    have HB := aM_ QHB
    have B1 := aM_ QB1
    have B2 := aM_ (QB2 (hoff 13 rfl))
    have z := B1.out.cell 2
    refine value_ (w1 := w') (v := .slice A3 l3.length c3) (by rfl) rfl ?_ ?_
    ·go_simp
     (try simp only [i64_w])
     try rfl
     try assumption
    refine hK.out _ _ ⟨g, h, rs, Ar, cr, ns, Ba, ca, m3_, m8_, m12_, m14_, m15_, (by rw [ha.out]; exact putSel_upk 10 hb_ rfl rfl rfl), QHB, QB1, QB2, QGO, QGM, QRR, QRP, dD_ (hoff 12 rfl), dD_ (hoff 12 rfl), dD_ (hoff 13 rfl), QX3_, QX8_, dD_ (hoff 12 rfl), dD_ (hoff 14 rfl), dD_ (hoff 15 rfl)⟩
   refine steps_cons ?_ ?_
   ·rintro b a w' ⟨g, h, rs, Ar, cr, ns, Ba, ca, m3_, m8_, m12_, m14_, m15_, ha, QHB, QB1, QB2, QGO, QGM, QRR, QRP, QRN, QNP, QB3, QX3_, QX8_, QX12_, QX14_, QX15_⟩ hb_ hon hoff
    refine ⟨_, rfl, fun K hK => ?_⟩
    have e5 : a.tmps[5]? = some (.int .i64 (n : Int)) := by rw [ha]; exact (putSel_off rfl).trans rfl
    replace ha := aM_ ha
    have HB := aM_ QHB
    have B1 := aM_ QB1
    have B2 := aM_ (QB2 (hoff 13 rfl))
    refine value_ (w1 := w') (v := .int .i64 (n : Int)) (by rfl) rfl ?_ ?_
    ·go_simp
     (try simp only [i64_w])
     try rfl
     try assumption
    refine hK.out _ _ ⟨g, h, rs, Ar, cr, ns, Ba, ca, m3_, m8_, m12_, m14_, m15_, (by rw [ha.out]; exact putSel_upk 11 hb_ rfl rfl rfl), QHB, QB1, QB2, QGO, QGM, QRR, QRP, dD_ (hoff 12 rfl), dD_ (hoff 12 rfl), dD_ (hoff 13 rfl), QX3_, QX8_, dD_ (hoff 12 rfl), dD_ (hoff 14 rfl), dD_ (hoff 15 rfl)⟩
   refine steps_cons ?_ ?_
   ·rintro b a w' ⟨g, h, rs, Ar, cr, ns, Ba, ca, m3_, m8_, m12_, m14_, m15_, ha, QHB, QB1, QB2, QGO, QGM, QRR, QRP, QRN, QNP, QB3, QX3_, QX8_, QX12_, QX14_, QX15_⟩ hb_ hon hoff
    refine ⟨_, rfl, fun K hK => ?_⟩
    have e26 : a.tmps[26]? = some (.slice A3 l3.length c3) := by rw [ha]; exact putSel_on (e := (10, 26, .slice A3 l3.length c3)) 10 rfl rfl (hon 10 rfl) rfl
    have e27 : a.tmps[27]? = some (.int .i64 (n : Int)) := by rw [ha]; exact putSel_on (e := (11, 27, .int .i64 (n : Int))) 11 rfl rfl (hon 11 rfl) rfl
    replace ha := aM_ ha
    have HB := aM_ QHB
    have B1 := aM_ QB1
    have B2 := aM_ (QB2 (hoff 13 rfl))
    have GO := aM_ (QGO (hon 3 rfl))
    have GM := aM_ (QGM (hon 3 rfl))
    have RR := aM_ (QRR (hon 8 rfl))
    have RP := aM_ (QRP (hon 8 rfl))
    refine call_ 26 #[.slice A3 l3.length c3, .int .i64 (n : Int)] (by rfl) rfl ?_ ?_
    ·go_simp
    refine (madeAt_any l3 A3 c3 n w' (by have := HN3.out; omega) (Kd.C_below HC3.out HB.out)).mono ?_
    rintro e w2' ⟨ns0, Ba0, ca0, hnl, hnb, rfl, hnr, hnc, hb⟩
    refine ⟨_, rfl, ?_⟩
    refine hK.out _ _ ⟨g, h, rs, Ar, cr, ns0, Ba0, ca0, m3_, m8_, (.slice Ba0 ns0.length ca0), m14_, m15_, (by rw [ha.out]; exact putSel_upk 12 hb_ rfl rfl rfl), bthen' HB.out hb, B1.out.below hb, fun _ => B2.out.below hb, fun _ => GO.out.below hb, QGM, fun _ => Kd.R_below RR.out hb, QRP, fun _ => Kd.R_lower hnr HB.out.size, fun _ => ⟨hnl, hnb, hnc⟩, dD_ (hoff 13 rfl), QX3_, QX8_, fun _ => rfl, dD_ (hoff 14 rfl), dD_ (hoff 15 rfl)⟩
   refine steps_cons ?_ ?_
   ·rintro b a w' ⟨g, h, rs, Ar, cr, ns, Ba, ca, m3_, m8_, m12_, m14_, m15_, ha, QHB, QB1, QB2, QGO, QGM, QRR, QRP, QRN, QNP, QB3, QX3_, QX8_, QX12_, QX14_, QX15_⟩ hb_ hon hoff
    refine ⟨_, rfl, fun K hK => ?_⟩
    have e2 : a.tmps[2]? = some (.pointer (some ⟨g2, 0, none⟩)) := by rw [ha]; exact (putSel_off rfl).trans rfl
    have e19 : a.tmps[19]? = some (m3_) := by rw [ha]; exact putSel_on (e := (3, 19, m3_)) 3 rfl rfl (hon 3 rfl) rfl
    rw [QX3_ (hon 3 rfl)] at e19
    replace ha := aM_ ha
    have HB := aM_ QHB
    have B1 := aM_ QB1
    have B2 := aM_ (QB2 hb_)
    have GO := aM_ (QGO (hon 3 rfl))
    have GM := aM_ (QGM (hon 3 rfl))
    have RR := aM_ (QRR (hon 8 rfl))
    have RP := aM_ (QRP (hon 8 rfl))
    have RN := aM_ (QRN (hon 12 rfl))
    have NP := aM_ (QNP (hon 12 rfl))
    have c0 := B2.out.cell 0
    have c1 := B2.out.cell 1
    have c2 := B2.out.cell 2
    have c3 := B2.out.cell 3
    have c4 := B2.out.cell 4
    have c5 := B2.out.cell 5
    have c6 := B2.out.cell 6
    have c7 := B2.out.cell 7
    simp only [gA_, gZ_, gS_] at c0 c1 c2 c3 c4 c5 c6 c7
    have f0 := B2.out.frozen 0
    have f1 := B2.out.frozen 1
    have f2 := B2.out.frozen 2
    have f3 := B2.out.frozen 3
    have f4 := B2.out.frozen 4
    have f5 := B2.out.frozen 5
    have f6 := B2.out.frozen 6
    have f7 := B2.out.frozen 7
    refine skip_ (w1 := ((((((((w'.setCell ⟨g2, 0, none⟩ (.slice h.a1 g.ct.length h.c1)).setCell ⟨g2, 1, none⟩ (.slice h.a2 g.an.length h.c2)).setCell ⟨g2, 2, none⟩ (.int .i64 g.hang.a)).setCell ⟨g2, 3, none⟩ (.int .i64 g.hang.b)).setCell ⟨g2, 4, none⟩ (.int .i64 g.hang.c)).setCell ⟨g2, 5, none⟩ (.int .i64 g.adv)).setCell ⟨g2, 6, none⟩ (.slice h.a3 g.dl.length h.c3)).setCell ⟨g2, 7, none⟩ (.slice h.a4 g.pr.length h.c4))) (by rfl) rfl ?_ ?_
    ·go_simp
    refine hK.out _ _ ⟨g, h, rs, Ar, cr, ns, Ba, ca, m3_, m8_, m12_, m14_, m15_, (by rw [ha.out]; exact putSel_none (v := undef) rfl), (bset (bset (bset (bset (bset (bset (bset (bset HB.out LG2.out 0 (.slice h.a1 g.ct.length h.c1)) LG2.out 1 (.slice h.a2 g.an.length h.c2)) LG2.out 2 (.int .i64 g.hang.a)) LG2.out 3 (.int .i64 g.hang.b)) LG2.out 4 (.int .i64 g.hang.c)) LG2.out 5 (.int .i64 g.adv)) LG2.out 6 (.slice h.a3 g.dl.length h.c3)) LG2.out 7 (.slice h.a4 g.pr.length h.c4)), ((((((((B1.out.far N12.out 0 (.slice h.a1 g.ct.length h.c1)).far N12.out 1 (.slice h.a2 g.an.length h.c2)).far N12.out 2 (.int .i64 g.hang.a)).far N12.out 3 (.int .i64 g.hang.b)).far N12.out 4 (.int .i64 g.hang.c)).far N12.out 5 (.int .i64 g.adv)).far N12.out 6 (.slice h.a3 g.dl.length h.c3)).far N12.out 7 (.slice h.a4 g.pr.length h.c4)), dE_ (up_self b 13), fun _ => (GlO.set (GlO.set (GlO.set (GlO.set (GlO.set (GlO.set (GlO.set (GlO.set GO.out B2.out 0 (.slice h.a1 g.ct.length h.c1)) (B2.out.set 0 (.slice h.a1 g.ct.length h.c1)) 1 (.slice h.a2 g.an.length h.c2)) ((B2.out.set 0 (.slice h.a1 g.ct.length h.c1)).set 1 (.slice h.a2 g.an.length h.c2)) 2 (.int .i64 g.hang.a)) (((B2.out.set 0 (.slice h.a1 g.ct.length h.c1)).set 1 (.slice h.a2 g.an.length h.c2)).set 2 (.int .i64 g.hang.a)) 3 (.int .i64 g.hang.b)) ((((B2.out.set 0 (.slice h.a1 g.ct.length h.c1)).set 1 (.slice h.a2 g.an.length h.c2)).set 2 (.int .i64 g.hang.a)).set 3 (.int .i64 g.hang.b)) 4 (.int .i64 g.hang.c)) (((((B2.out.set 0 (.slice h.a1 g.ct.length h.c1)).set 1 (.slice h.a2 g.an.length h.c2)).set 2 (.int .i64 g.hang.a)).set 3 (.int .i64 g.hang.b)).set 4 (.int .i64 g.hang.c)) 5 (.int .i64 g.adv)) ((((((B2.out.set 0 (.slice h.a1 g.ct.length h.c1)).set 1 (.slice h.a2 g.an.length h.c2)).set 2 (.int .i64 g.hang.a)).set 3 (.int .i64 g.hang.b)).set 4 (.int .i64 g.hang.c)).set 5 (.int .i64 g.adv)) 6 (.slice h.a3 g.dl.length h.c3)) (((((((B2.out.set 0 (.slice h.a1 g.ct.length h.c1)).set 1 (.slice h.a2 g.an.length h.c2)).set 2 (.int .i64 g.hang.a)).set 3 (.int .i64 g.hang.b)).set 4 (.int .i64 g.hang.c)).set 5 (.int .i64 g.adv)).set 6 (.slice h.a3 g.dl.length h.c3)) 7 (.slice h.a4 g.pr.length h.c4)), QGM, fun _ => (Kd.R_set (Kd.R_set (Kd.R_set (Kd.R_set (Kd.R_set (Kd.R_set (Kd.R_set (Kd.R_set RR.out B2.out (by decide) 0 (.slice h.a1 g.ct.length h.c1)) (B2.out.set 0 (.slice h.a1 g.ct.length h.c1)) (by decide) 1 (.slice h.a2 g.an.length h.c2)) ((B2.out.set 0 (.slice h.a1 g.ct.length h.c1)).set 1 (.slice h.a2 g.an.length h.c2)) (by decide) 2 (.int .i64 g.hang.a)) (((B2.out.set 0 (.slice h.a1 g.ct.length h.c1)).set 1 (.slice h.a2 g.an.length h.c2)).set 2 (.int .i64 g.hang.a)) (by decide) 3 (.int .i64 g.hang.b)) ((((B2.out.set 0 (.slice h.a1 g.ct.length h.c1)).set 1 (.slice h.a2 g.an.length h.c2)).set 2 (.int .i64 g.hang.a)).set 3 (.int .i64 g.hang.b)) (by decide) 4 (.int .i64 g.hang.c)) (((((B2.out.set 0 (.slice h.a1 g.ct.length h.c1)).set 1 (.slice h.a2 g.an.length h.c2)).set 2 (.int .i64 g.hang.a)).set 3 (.int .i64 g.hang.b)).set 4 (.int .i64 g.hang.c)) (by decide) 5 (.int .i64 g.adv)) ((((((B2.out.set 0 (.slice h.a1 g.ct.length h.c1)).set 1 (.slice h.a2 g.an.length h.c2)).set 2 (.int .i64 g.hang.a)).set 3 (.int .i64 g.hang.b)).set 4 (.int .i64 g.hang.c)).set 5 (.int .i64 g.adv)) (by decide) 6 (.slice h.a3 g.dl.length h.c3)) (((((((B2.out.set 0 (.slice h.a1 g.ct.length h.c1)).set 1 (.slice h.a2 g.an.length h.c2)).set 2 (.int .i64 g.hang.a)).set 3 (.int .i64 g.hang.b)).set 4 (.int .i64 g.hang.c)).set 5 (.int .i64 g.adv)).set 6 (.slice h.a3 g.dl.length h.c3)) (by decide) 7 (.slice h.a4 g.pr.length h.c4)), QRP, fun _ => (Kd.R_set (Kd.R_set (Kd.R_set (Kd.R_set (Kd.R_set (Kd.R_set (Kd.R_set (Kd.R_set RN.out B2.out (by decide) 0 (.slice h.a1 g.ct.length h.c1)) (B2.out.set 0 (.slice h.a1 g.ct.length h.c1)) (by decide) 1 (.slice h.a2 g.an.length h.c2)) ((B2.out.set 0 (.slice h.a1 g.ct.length h.c1)).set 1 (.slice h.a2 g.an.length h.c2)) (by decide) 2 (.int .i64 g.hang.a)) (((B2.out.set 0 (.slice h.a1 g.ct.length h.c1)).set 1 (.slice h.a2 g.an.length h.c2)).set 2 (.int .i64 g.hang.a)) (by decide) 3 (.int .i64 g.hang.b)) ((((B2.out.set 0 (.slice h.a1 g.ct.length h.c1)).set 1 (.slice h.a2 g.an.length h.c2)).set 2 (.int .i64 g.hang.a)).set 3 (.int .i64 g.hang.b)) (by decide) 4 (.int .i64 g.hang.c)) (((((B2.out.set 0 (.slice h.a1 g.ct.length h.c1)).set 1 (.slice h.a2 g.an.length h.c2)).set 2 (.int .i64 g.hang.a)).set 3 (.int .i64 g.hang.b)).set 4 (.int .i64 g.hang.c)) (by decide) 5 (.int .i64 g.adv)) ((((((B2.out.set 0 (.slice h.a1 g.ct.length h.c1)).set 1 (.slice h.a2 g.an.length h.c2)).set 2 (.int .i64 g.hang.a)).set 3 (.int .i64 g.hang.b)).set 4 (.int .i64 g.hang.c)).set 5 (.int .i64 g.adv)) (by decide) 6 (.slice h.a3 g.dl.length h.c3)) (((((((B2.out.set 0 (.slice h.a1 g.ct.length h.c1)).set 1 (.slice h.a2 g.an.length h.c2)).set 2 (.int .i64 g.hang.a)).set 3 (.int .i64 g.hang.b)).set 4 (.int .i64 g.hang.c)).set 5 (.int .i64 g.adv)).set 6 (.slice h.a3 g.dl.length h.c3)) (by decide) 7 (.slice h.a4 g.pr.length h.c4)), QNP, fun _ => ((((((((B2.out.put 0 (.slice h.a1 g.ct.length h.c1) rfl).put 1 (.slice h.a2 g.an.length h.c2) rfl).put 2 (.int .i64 g.hang.a) rfl).put 3 (.int .i64 g.hang.b) rfl).put 4 (.int .i64 g.hang.c) rfl).put 5 (.int .i64 g.adv) rfl).put 6 (.slice h.a3 g.dl.length h.c3) rfl).put 7 (.slice h.a4 g.pr.length h.c4) rfl), QX3_, QX8_, QX12_, dD_ (hoff 14 rfl), dD_ (hoff 15 rfl)⟩
   refine steps_cons ?_ ?_
   ·rintro b a w' ⟨g, h, rs, Ar, cr, ns, Ba, ca, m3_, m8_, m12_, m14_, m15_, ha, QHB, QB1, QB2, QGO, QGM, QRR, QRP, QRN, QNP, QB3, QX3_, QX8_, QX12_, QX14_, QX15_⟩ hb_ hon hoff
    refine ⟨_, rfl, fun K hK => ?_⟩
    have e24 : a.tmps[24]? = some (m8_) := by rw [ha]; exact putSel_on (e := (8, 24, m8_)) 8 rfl rfl (hon 8 rfl) rfl
    rw [QX8_ (hon 8 rfl)] at e24
    replace ha := aM_ ha
    have HB := aM_ QHB
    have B1 := aM_ QB1
    have GO := aM_ (QGO (hon 3 rfl))
    have GM := aM_ (QGM (hon 3 rfl))
    have RR := aM_ (QRR (hon 8 rfl))
    have RP := aM_ (QRP (hon 8 rfl))
    have RN := aM_ (QRN (hon 12 rfl))
    have NP := aM_ (QNP (hon 12 rfl))
    have B3 := aM_ (QB3 (hon 13 rfl))
    refine value_ (w1 := w') (v := .slice Ar rs.length cr) (by rfl) rfl ?_ ?_
    ·go_simp
     (try simp only [i64_w])
     try rfl
     try assumption
    refine hK.out _ _ ⟨g, h, rs, Ar, cr, ns, Ba, ca, m3_, m8_, m12_, (.slice Ar rs.length cr), m15_, (by rw [ha.out]; exact putSel_upk 13 hb_ rfl rfl rfl), QHB, QB1, fun h0_ => absurd ((hon 13 rfl).symm.trans h0_) (by decide), QGO, QGM, QRR, QRP, QRN, QNP, QB3, QX3_, QX8_, QX12_, fun _ => rfl, dD_ (hoff 15 rfl)⟩
   refine steps_cons ?_ ?_
   ·rintro b a w' ⟨g, h, rs, Ar, cr, ns, Ba, ca, m3_, m8_, m12_, m14_, m15_, ha, QHB, QB1, QB2, QGO, QGM, QRR, QRP, QRN, QNP, QB3, QX3_, QX8_, QX12_, QX14_, QX15_⟩ hb_ hon hoff
    refine ⟨_, rfl, fun K hK => ?_⟩
    have e28 : a.tmps[28]? = some (m12_) := by rw [ha]; exact putSel_on (e := (12, 28, m12_)) 12 rfl rfl (hon 12 rfl) rfl
    rw [QX12_ (hon 12 rfl)] at e28
    replace ha := aM_ ha
    have HB := aM_ QHB
    have B1 := aM_ QB1
    have GO := aM_ (QGO (hon 3 rfl))
    have GM := aM_ (QGM (hon 3 rfl))
    have RR := aM_ (QRR (hon 8 rfl))
    have RP := aM_ (QRP (hon 8 rfl))
    have RN := aM_ (QRN (hon 12 rfl))
    have NP := aM_ (QNP (hon 12 rfl))
    have B3 := aM_ (QB3 (hon 13 rfl))
    refine value_ (w1 := w') (v := .slice Ba ns.length ca) (by rfl) rfl ?_ ?_
    ·go_simp
     (try simp only [i64_w])
     try rfl
     try assumption
    refine hK.out _ _ ⟨g, h, rs, Ar, cr, ns, Ba, ca, m3_, m8_, m12_, m14_, (.slice Ba ns.length ca), (by rw [ha.out]; exact putSel_upk 14 hb_ rfl rfl rfl), QHB, QB1, fun h0_ => absurd ((hon 13 rfl).symm.trans h0_) (by decide), QGO, QGM, QRR, QRP, QRN, QNP, QB3, QX3_, QX8_, QX12_, QX14_, fun _ => rfl⟩
   exact steps_nil
  ·rintro b a w' hall ⟨g, h, rs, Ar, cr, ns, Ba, ca, m3_, m8_, m12_, m14_, m15_, ha, QHB, QB1, QB2, QGO, QGM, QRR, QRP, QRN, QNP, QB3, QX3_, QX8_, QX12_, QX14_, QX15_⟩
   clear B1 B2 HB
   have hb0_ := hall 0 (by kernel_rfl)
   have hb1_ := hall 1 (by kernel_rfl)
   have hb2_ := hall 2 (by kernel_rfl)
   have hb3_ := hall 3 (by kernel_rfl)
   have hb4_ := hall 4 (by kernel_rfl)
   have hb5_ := hall 5 (by kernel_rfl)
   have hb6_ := hall 6 (by kernel_rfl)
   have hb7_ := hall 7 (by kernel_rfl)
   have hb8_ := hall 8 (by kernel_rfl)
   have hb9_ := hall 9 (by kernel_rfl)
   have hb10_ := hall 10 (by kernel_rfl)
   have hb11_ := hall 11 (by kernel_rfl)
   have hb12_ := hall 12 (by kernel_rfl)
   have hb13_ := hall 13 (by kernel_rfl)
   have hb14_ := hall 14 (by kernel_rfl)
   have hb15_ := hall 15 (by kernel_rfl)
   subst ha
   obtain rfl := QX3_ hb3_
   obtain rfl := QX8_ hb8_
   obtain rfl := QX12_ hb12_
   obtain rfl := QX14_ hb14_
   obtain rfl := QX15_ hb15_
   simp only [putSel, hb0_, hb1_, hb2_, hb3_, hb4_, hb5_, hb6_, hb7_, hb8_, hb9_, hb10_, hb11_, hb12_, hb13_, hb14_, hb15_, if_true, Act.put, List.setIfInBounds_toArray, List.set_cons_zero, List.set_cons_succ]
   have HB := aM_ QHB
   clear QHB
   have B1 := aM_ QB1
   clear QB1
   clear QB2
   have GO := aM_ (QGO hb3_)
   clear QGO
   have GM := aM_ (QGM hb3_)
   clear QGM
   have RR := aM_ (QRR hb8_)
   clear QRR
   have RP := aM_ (QRP hb8_)
   clear QRP
   have RN := aM_ (QRN hb12_)
   clear QRN
   have NP := aM_ (QNP hb12_)
   clear QNP
   have B3 := aM_ (QB3 hb13_)
   clear QB3
   clear hall hb0_ hb1_ hb2_ hb3_ hb4_ hb5_ hb6_ hb7_ hb8_ hb9_ hb10_ hb11_ hb12_ hb13_ hb14_ hb15_
   generalize w' = w4 at *
   go_wp2_with fail
   obtain ⟨e1_, e2_⟩ := RP.out
   obtain ⟨f1_, f2_, f3_⟩ := NP.out
   refine bodyPost_ret (res_ctt (g := g2) rfl _ _ _ _ _ rfl B3.out rfl Try.underlying29 (by kernel_rfl)) rfl ⟨g, h, rs, Ar, cr, ns, Ba, ca, rfl, ⟨GO.out.glR, by rw [e1_]; exact GM.out, by rw [e1_]; exact HM3.out, by rw [f1_]; exact e2_, by rw [f1_]; exact HN1.out, by rw [f1_]; exact HN3.out, f2_, (Kd.R_reads' RR.out).2.2, (Kd.R_reads' RR.out).2.1, (Kd.R_reads' RN.out).2.2, f3_, HB.out⟩⟩
/- the reference's SameDelta and Same. -/
attribute [local go_sem] run_eqp
attribute [local go_sem high] eqAn
theorem eqIns (d : Nat) (w : World) (x0 y0 x1 y1 : Int) : (Op.equalIn (d + 2) 41 (.agg #[.int .i64 x0, .int .i64 x1]) (.agg #[.int .i64 y0, .int .i64 y1])).run Try.prog w = .ok (x0 == y0 && (x1 == y1)) w := by
 refine eqA_of Try.underlying41 (by kernel_rfl) ?_
 refine eqf_cons (by rfl) (by go_simp; rfl) (by go_simp; rfl) (by go_simp) ?_
 exact eqf_last (by rfl) (by go_simp; rfl) (by go_simp; rfl) (by go_simp)
attribute [local go_sem high] eqIns
theorem rsDl_any (a b : Dl) (A : Option Addr) (c : Nat) (B : Option Addr) (d : Nat) (w : World) (hC : Kd.C kI2 w A a.moves.length a.moves) (hD : Kd.C kI2 w B b.moves.length b.moves) :
  Calls Try.prog 36 #[.agg #[.int .i64 a.region, .int .i64 a.adv, .slice A a.moves.length c], .agg #[.int .i64 b.region, .int .i64 b.adv, .slice B b.moves.length d]] w fun e w' => e = .returned (.bool (decide (a = b))) ∧ Below w.heap.size w w' := by
 have HC := lH_ hC
 have HD := lH_ hD
 have hml : a.moves.length ≤ 9223372036854775807 := hC.2.1
 have hmm : b.moves.length ≤ 9223372036854775807 := hD.2.1
 clear hC hD
 go_enter Try.func36, Try.ntmps36
 go_upto_region 1 with fail
 obtain ⟨w1, gA, hw0_, hg0_, XgA_, YgA_, _⟩ := new_box w #[.int .i64 a.region, .int .i64 a.adv, .slice A a.moves.length c] 59
 obtain ⟨w2, gB, hw1_, hg1_, XgB_, YgB_, _⟩ := new_box w1 #[.int .i64 b.region, .int .i64 b.adv, .slice B b.moves.length d] 59
 have s1_ : w.heap.size + 1 = gB := by rw [← hg1_, ← hw0_]; simp
 rw [hw0_, hw1_, s1_, hg0_]
 have EgA := lH_ (show gA = w.heap.size + 0 by omega)
 have EgB := lH_ (show gB = w.heap.size + 1 by omega)
 clear hw0_ hg0_ hw1_ hg1_ s1_
 have HXw2 := lH_ (bthen' (YgA_.out) YgB_.out)
 have BgA := lH_ ((XgA_.out).below YgB_.out)
 have BgB := lH_ (XgB_.out)
 clear XgA_ YgA_ XgB_ YgB_
 have x0 := BgA.out.cell 0
 have x1 := BgA.out.cell 1
 have x2 := BgA.out.cell 2
 simp only [gA_, gZ_, gS_] at x0 x1 x2
 have y0 := BgB.out.cell 0
 have y1 := BgB.out.cell 1
 have y2 := BgB.out.cell 2
 simp only [gA_, gZ_, gS_] at y0 y1 y2
 by_cases hr : a.region = b.region
 case neg =>
  have HE := lH_ (show decide (a = b) = false from decide_eq_false (fun e => hr (by rw [e])))
  have dr : (a.region != b.region) = true := by simpa using hr
  clear hr
  go_wp2_with fail
  go_ret
  exact ⟨ret_bool HE.out.symm, HXw2.out⟩
 have dr : (a.region != b.region) = false := by simp; omega
 have HFr := lH_ hr
 clear hr
 by_cases hv : a.adv = b.adv
 case neg =>
  have HE := lH_ (show decide (a = b) = false from decide_eq_false (fun e => hv (by rw [e])))
  have dv : (a.adv != b.adv) = true := by simpa using hv
  clear hv
  go_wp2_with fail
  go_ret
  exact ⟨ret_bool HE.out.symm, HXw2.out⟩
 have dv : (a.adv != b.adv) = false := by simp; omega
 have HFv := lH_ hv
 clear hv
 by_cases hl : a.moves.length = b.moves.length
 case neg =>
  have HE := lH_ (show decide (a = b) = false from decide_eq_false (fun e => hl (by rw [e])))
  have dl : ((a.moves.length : Int) != (b.moves.length : Int)) = true := by simp; omega
  clear hl
  go_wp2_with fail
  go_ret
  exact ⟨ret_bool HE.out.symm, HXw2.out⟩
 have dl : ((a.moves.length : Int) != (b.moves.length : Int)) = false := by simp; omega
 have HFl := lH_ hl
 clear hl
 go_wp2_with fail
 clear dr dv dl x0 x1 x2 y0 y1 y2
 go_loopw [5] (fun i wr => ∃ k : Nat, i = .int .i64 k ∧ k ≤ a.moves.length ∧ Hid (a.moves.take k = b.moves.take k) ∧ Hid (Below w2.heap.size w2 wr)) (fun i _ => a.moves.length - (intOf i).toNat)
 case atStart => exact ⟨0, rfl, Nat.zero_le _, lH_ rfl, lH_ (Below.refl _ _)⟩
 case round =>
  obtain ⟨k, rfl, hk, HT, HBr⟩ := hrel
  have HXr := lH_ (bthen' HXw2.out HBr.out)
  have HA := lH_ (BgA.out.below HBr.out)
  have HBk := lH_ (BgB.out.below HBr.out)
  have x2 := HA.out.cell 2
  have y2 := HBk.out.cell 2
  simp only [gA_, gZ_, gS_] at x2 y2
  by_cases hlt : k < a.moves.length
  ·have d1 : decide (k < a.moves.length) = true := decide_eq_true hlt
   have hlt2 : k < b.moves.length := by rw [← HFl.out]; exact hlt
   obtain ⟨ad, c0, c1, rfl, hK, p0, p1⟩ := el2 (d := kI2) rfl (Kd.C_below HC.out HXr.out) zI2 k hlt
   have hk2 := kI2_open hK
   simp only [List.cons.injEq, and_true] at hk2
   obtain ⟨rfl, rfl⟩ := hk2
   clear hK
   obtain ⟨bd, c0, c1, rfl, hK, q0, q1⟩ := el2 (d := kI2) rfl (Kd.C_below HD.out HXr.out) zI2 k hlt2
   have hk2 := kI2_open hK
   simp only [List.cons.injEq, and_true] at hk2
   obtain ⟨rfl, rfl⟩ := hk2
   clear hK
   have HY := lH_ (fun h => eq_take_succ a.moves b.moves zI2 k hlt hlt2 HT.out h)
   have HN := lH_ (fun h => decide_eq_false (@ne_getD _ a.moves b.moves zI2 k h))
   generalize a.moves.getD k zI2 = m at *
   generalize b.moves.getD k zI2 = n at *
   have b0 : (0 : Int) ≤ (k : Int) := by omega
   have b1 : (k : Int) < (a.moves.length : Int) := by omega
   have b2 : (k : Int) < (b.moves.length : Int) := by omega
   clear HT hlt2
   go_upto_region 6 with fail
   rcases Bool.eq_false_or_eq_true (m.a == n.a && m.b == n.b) with qh | qh
   ·have HE := lH_ (HY.out (by rw [Bool.and_eq_true, beq_iff_eq, beq_iff_eq] at qh; obtain ⟨x, y⟩ := m; obtain ⟨u, v⟩ := n; dsimp only at qh; rw [qh.1, qh.2]))
    go_quiet (fail)
    have HB4 := lH_ (bdrewN HBr.out nq)
    generalize wr.drewN nq = w4 at *
    go_wp2_with fail
    exact ⟨⟨k + 1, by go_num, by omega, HE, HB4⟩, by simp [intOf]; omega⟩
   ·have HE := lH_ (show decide (a = b) = false from decide_eq_false (fun e => of_decide_eq_false (HN.out (by rintro rfl; simp at qh)) (by rw [e])))
    go_quiet (fail)
    have HB4 := lH_ (bdrewN HBr.out nq)
    generalize wr.drewN nq = w4 at *
    go_wp2_with fail
    go_ret
    exact ⟨ret_bool HE.out.symm, bthen' HXw2.out HB4.out⟩
  ·have d1 : decide (k < a.moves.length) = false := decide_eq_false hlt
   have HE := lH_ (show decide (a = b) = true from decide_eq_true (by have h := HT.out; rw [List.take_of_length_le (by omega), List.take_of_length_le (by have := HFl.out; omega)] at h; obtain ⟨x, y, z⟩ := a; obtain ⟨u, v, t⟩ := b; have h1 := HFr.out; have h2 := HFv.out; dsimp only at h h1 h2; rw [h, h1, h2]))
   clear hlt
   go_wp2_with fail
   go_ret
   exact ⟨ret_bool HE.out.symm, HXr.out⟩
def oRs6.T6 : Bool × List (List Nat × List Nat) := (true, [([], []), ([0], [0]), ([], []), ([1, 2], [1, 2]), ([3], [3]), ([], []), ([5], [5]), ([], []), ([6, 7], [6, 7]), ([8], [8]), ([4, 9], [4, 9]), ([10], [10])])
def oRs6.B6 : List Nat := [0, 1, 0, 7, 15, 0, 32, 0, 224, 480, 1023, 2047]
theorem oRs6.tab6 : rtab .any (opsOf Try.f12 6) = oRs6.T6 := by kernel_rfl
theorem oRs6.bits6 : waitsOk oRs6.T6.2 oRs6.B6 = true := by kernel_rfl
theorem rfSame_any (g x : Gl) (h y : Hd) (w : World) (hg : GlR w g h) (hx : GlR w x y) : Calls Try.prog 12 #[.agg (gv g h), .agg (gv x y)] w fun e w' => e = .returned (.bool (sameB g x)) ∧ Below w.heap.size w w' := by
 have HG := lH_ hg
 have HK := lH_ hx
 have hm1 : g.dl.length ≤ 9223372036854775807 := hg.dl.2.1
 have hm2 : x.dl.length ≤ 9223372036854775807 := hx.dl.2.1
 have hm3 : g.pr.length ≤ 9223372036854775807 := hg.pr.2.1
 have hm4 : x.pr.length ≤ 9223372036854775807 := hx.pr.2.1
 have HE : Hid (sameB g x = (((decide (g.ct = x.ct) && decide (g.an = x.an)) && ((decide (g.hang = x.hang) && decide (g.adv = x.adv)) && decide (g.pr = x.pr))) && decide (g.dl = x.dl))) := lH_ rfl
 generalize sameB g x = r at *
 clear hg hx
 obtain ⟨N1, n1, N2, n2, N3, n3, N4, n4⟩ := h
 obtain ⟨M1, m1, M2, m2, M3, m3, M4, m4⟩ := y
 go_enter Try.func12, Try.ntmps12
 unfold gv
 dsimp only
 go_upto_region 1 with fail
 obtain ⟨w1, gA, hw0_, hg0_, XgA_, YgA_, _⟩ := new_box w #[.slice N1 g.ct.length n1, .slice N2 g.an.length n2, .int .i64 g.hang.a, .int .i64 g.hang.b, .int .i64 g.hang.c, .int .i64 g.adv, .slice N3 g.dl.length n3, .slice N4 g.pr.length n4] 29
 obtain ⟨w2, gB, hw1_, hg1_, XgB_, YgB_, _⟩ := new_box w1 #[.slice M1 x.ct.length m1, .slice M2 x.an.length m2, .int .i64 x.hang.a, .int .i64 x.hang.b, .int .i64 x.hang.c, .int .i64 x.adv, .slice M3 x.dl.length m3, .slice M4 x.pr.length m4] 29
 have s1_ : w.heap.size + 1 = gB := by rw [← hg1_, ← hw0_]; simp
 rw [hw0_, hw1_, s1_, hg0_]
 have EgA := lH_ (show gA = w.heap.size + 0 by omega)
 have EgB := lH_ (show gB = w.heap.size + 1 by omega)
 clear hw0_ hg0_ hw1_ hg1_ s1_
 have HXw2 := lH_ (bthen' (YgA_.out) YgB_.out)
 have BgA := lH_ ((XgA_.out).below YgB_.out)
 have BgB := lH_ (XgB_.out)
 clear XgA_ YgA_ XgB_ YgB_
 have HX := HXw2
 clear HXw2
 have a0 := BgA.out.cell 0
 simp only [gA_, gZ_, gS_] at a0
 have b0 := BgB.out.cell 0
 simp only [gA_, gZ_, gS_] at b0
 go_wp2_with fail
 refine (rfSameC_any g.ct x.ct N1 n1 M1 m1 _ (HG.out.below HX.out).ct (HK.out.below HX.out).ct).mono ?_
 rintro e v3 ⟨rfl, hb⟩
 replace HX := lH_ (bthen' HX.out hb)
 replace BgA := lH_ (BgA.out.below hb)
 replace BgB := lH_ (BgB.out.below hb)
 clear hb
 clear a0 b0
 rcases Bool.eq_false_or_eq_true (decide (g.ct = x.ct)) with q1 | q1
 ·rw [q1]
  have HC := lH_ q1
  clear q1
  have a1 := BgA.out.cell 1
  simp only [gA_, gZ_, gS_] at a1
  have b1 := BgB.out.cell 1
  simp only [gA_, gZ_, gS_] at b1
  go_wp2_with fail
  refine (rfSameA_any g.an x.an N2 n2 M2 m2 _ (HG.out.below HX.out).an (HK.out.below HX.out).an).mono ?_
  rintro e v4 ⟨rfl, hb⟩
  replace HX := lH_ (bthen' HX.out hb)
  replace BgA := lH_ (BgA.out.below hb)
  replace BgB := lH_ (BgB.out.below hb)
  clear hb
  clear a1 b1
  have a2 := BgA.out.cell 2
  have a3 := BgA.out.cell 3
  have a4 := BgA.out.cell 4
  have a5 := BgA.out.cell 5
  have a6 := BgA.out.cell 6
  have a7 := BgA.out.cell 7
  simp only [gA_, gZ_, gS_] at a2 a3 a4 a5 a6 a7
  have b2 := BgB.out.cell 2
  have b3 := BgB.out.cell 3
  have b4 := BgB.out.cell 4
  have b5 := BgB.out.cell 5
  have b6 := BgB.out.cell 6
  have b7 := BgB.out.cell 7
  simp only [gA_, gZ_, gS_] at b2 b3 b4 b5 b6 b7
  rcases Bool.eq_false_or_eq_true (decide (g.an = x.an)) with q2 | q2
  ·rw [q2]
   have HA := lH_ q2
   clear q2
   rcases Bool.eq_false_or_eq_true (g.hang.a == x.hang.a && (g.hang.b == x.hang.b && (g.hang.c == x.hang.c))) with qh | qh
   ·have HH := lH_ ((hangEq g.hang x.hang).trans qh)
    by_cases hv : g.adv = x.adv
    case neg =>
     have dv : (g.adv != x.adv) = true := by simpa using hv
     have dv2 : decide (g.adv = x.adv) = false := decide_eq_false hv
     have HV := lH_ dv2
     clear hv
     go_wp2_with fail
     go_ret
     exact ⟨ret_bool (by rw [HE.out, HV.out]; simp), HX.out⟩
    have dv : (g.adv != x.adv) = false := by simpa using hv
    have dv2 : decide (g.adv = x.adv) = true := decide_eq_true hv
    have HV := lH_ dv2
    clear hv dv2
    by_cases hldl : g.dl.length = x.dl.length
    case neg =>
     have HE2 := lH_ (show decide (g.dl = x.dl) = false from decide_eq_false (fun e => hldl (by rw [e])))
     have dd : ((g.dl.length : Int) != (x.dl.length : Int)) = true := by simp; omega
     clear hldl
     go_wp2_with fail
     go_ret
     exact ⟨ret_bool (by rw [HE.out, HE2.out]; simp), HX.out⟩
    have d_dl : ((g.dl.length : Int) != (x.dl.length : Int)) = false := by simp; omega
    have HL := lH_ hldl
    clear hldl
    by_cases hlpr : g.pr.length = x.pr.length
    case neg =>
     have HE2 := lH_ (show decide (g.pr = x.pr) = false from decide_eq_false (fun e => hlpr (by rw [e])))
     have dd : ((g.pr.length : Int) != (x.pr.length : Int)) = true := by simp; omega
     clear hlpr
     go_wp2_with fail
     go_ret
     exact ⟨ret_bool (by rw [HE.out, HE2.out]; simp), HX.out⟩
    have d_pr : ((g.pr.length : Int) != (x.pr.length : Int)) = false := by simp; omega
    have HLP := lH_ hlpr
    clear hlpr
    go_wp2_with fail
    go_loopw [5] (fun i wr => ∃ k : Nat, i = .int .i64 k ∧ k ≤ g.dl.length ∧ Hid (g.dl.take k = x.dl.take k) ∧ Hid (Below v4.heap.size v4 wr)) (fun i _ => g.dl.length - (intOf i).toNat)
    case atStart => exact ⟨0, rfl, Nat.zero_le _, lH_ rfl, lH_ (Below.refl _ _)⟩
    case round =>
     obtain ⟨k, rfl, hk, HT, HBr⟩ := hrel
     have HXr := lH_ (bthen' HX.out HBr.out)
     have HA_ := lH_ (BgA.out.below HBr.out)
     have HB_ := lH_ (BgB.out.below HBr.out)
     have a6 := HA_.out.cell 6
     simp only [gA_, gZ_, gS_] at a6
     have b6 := HB_.out.cell 6
     simp only [gA_, gZ_, gS_] at b6
     by_cases hlt : k < g.dl.length
     ·have d1 : decide (k < g.dl.length) = true := decide_eq_true hlt
      have hlt2 : k < x.dl.length := by rw [← HL.out]; exact hlt
      obtain ⟨ad, c0, c1, c2, hAd, hK, p0, p1, p2⟩ := el3 (d := kDl) rfl (HG.out.below HXr.out).dl zDl k hlt
      obtain ⟨Ai, ci, hcs, _, hM⟩ := kDl_open hK
      simp only [List.cons.injEq, and_true] at hcs
      obtain ⟨rfl, rfl, rfl⟩ := hcs
      have HM := lH_ hM
      subst hAd
      clear hK hM
      obtain ⟨bd, c0, c1, c2, hAd, hK, q0, q1, q2⟩ := el3 (d := kDl) rfl (HK.out.below HXr.out).dl zDl k hlt2
      obtain ⟨Bi, di, hcs, _, hM⟩ := kDl_open hK
      simp only [List.cons.injEq, and_true] at hcs
      obtain ⟨rfl, rfl, rfl⟩ := hcs
      have HN_ := lH_ hM
      subst hAd
      clear hK hM
      have HY := lH_ (fun h => eq_take_succ g.dl x.dl zDl k hlt hlt2 HT.out h)
      have HN := lH_ (fun h => decide_eq_false (@ne_getD _ g.dl x.dl zDl k h))
      generalize g.dl.getD k zDl = da at *
      generalize x.dl.getD k zDl = db at *
      have b0 : (0 : Int) ≤ (k : Int) := by omega
      have b1 : (k : Int) < (g.dl.length : Int) := by omega
      have b2 : (k : Int) < (x.dl.length : Int) := by omega
      clear HT hlt2
      go_upto_region 6 with fail
      refine start_ (n := 12) (S := fun w' => True) (ds := []) #[false, false, false, false, false, false, false, false, false, false, false, false] (by kernel_rfl) rfl rfl trivial (fun hHeld => ?_)
      refine with_tabW oRs6.tab6 oRs6.bits6 (fun HT_ HW_ => ?_)
      have HB : Aside0 (Below wr.heap.size wr wr.drew) := ⟨bdrew (Below.refl _ _)⟩
      generalize hwd : wr.drew = w1' at *
      clear hwd
      refine inv_at [0, 1, 2, 3, 4, 5, 6, 7, 8, 9, 10, 11] (fun a0_ b a w' => a = putSel a0_ b [(0, 60, .pointer (some ⟨gA, 6, none⟩)), (1, 61, .slice (some ad) g.dl.length n3), (2, 62, .int .i64 (k : Int)), (3, 63, .pointer (some (ad.add (k * 3)))), (4, 64, .agg #[.int .i64 da.region, .int .i64 da.adv, .slice Ai da.moves.length ci]), (5, 65, .pointer (some ⟨gB, 6, none⟩)), (6, 66, .slice (some bd) x.dl.length m3), (7, 67, .int .i64 (k : Int)), (8, 68, .pointer (some (bd.add (k * 3)))), (9, 69, .agg #[.int .i64 db.region, .int .i64 db.adv, .slice Bi db.moves.length di]), (10, 70, .bool (decide (da = db))), (11, 71, .bool (!decide (da = db)))] ∧ (Below wr.heap.size wr w')) HT_.out HW_.out (by kernel_rfl) (by kernel_rfl) ?_ ?_ ?_
      ·exact ⟨by simp only [putSel, Bool.false_eq_true, if_false], HB.out⟩
      ·skip
       clear HB
       refine steps_cons ?_ ?_
       ·rintro b a w' ⟨ha, QHB⟩ hb_ hon hoff
        refine ⟨_, rfl, fun K hK => ?_⟩
        have e2 : a.tmps[2]? = some (.pointer (some ⟨gA, 0, none⟩)) := by rw [ha]; exact (putSel_off rfl).trans rfl
        replace ha := aM_ ha
        have HB := aM_ QHB
        refine value_ (w1 := w') (v := .pointer (some ⟨gA, 6, none⟩)) (by rfl) rfl ?_ ?_
        ·go_simp
         (try simp only [i64_w])
         try rfl
         try assumption
        refine hK.out _ _ ⟨(by rw [ha.out]; exact putSel_upk 0 hb_ rfl rfl rfl), QHB⟩
       refine steps_cons ?_ ?_
       ·rintro b a w' ⟨ha, QHB⟩ hb_ hon hoff
        refine ⟨_, rfl, fun K hK => ?_⟩
        have e60 : a.tmps[60]? = some (.pointer (some ⟨gA, 6, none⟩)) := by rw [ha]; exact putSel_on (e := (0, 60, .pointer (some ⟨gA, 6, none⟩))) 0 rfl rfl (hon 0 rfl) rfl
        replace ha := aM_ ha
        have HB := aM_ QHB
        have z0 := pw_cell_below HB.out a6
        refine value_ (w1 := w') (v := .slice (some ad) g.dl.length n3) (by rfl) rfl ?_ ?_
        ·go_simp
         (try simp only [i64_w])
         try rfl
         try assumption
        refine hK.out _ _ ⟨(by rw [ha.out]; exact putSel_upk 1 hb_ rfl rfl rfl), QHB⟩
       refine steps_cons ?_ ?_
       ·rintro b a w' ⟨ha, QHB⟩ hb_ hon hoff
        refine ⟨_, rfl, fun K hK => ?_⟩
        have e5 : a.tmps[5]? = some (.int .i64 (k : Int)) := by rw [ha]; exact (putSel_off rfl).trans rfl
        replace ha := aM_ ha
        have HB := aM_ QHB
        refine value_ (w1 := w') (v := .int .i64 (k : Int)) (by rfl) rfl ?_ ?_
        ·go_simp
         (try simp only [i64_w])
         try rfl
         try assumption
        refine hK.out _ _ ⟨(by rw [ha.out]; exact putSel_upk 2 hb_ rfl rfl rfl), QHB⟩
       refine steps_cons ?_ ?_
       ·rintro b a w' ⟨ha, QHB⟩ hb_ hon hoff
        refine ⟨_, rfl, fun K hK => ?_⟩
        have e61 : a.tmps[61]? = some (.slice (some ad) g.dl.length n3) := by rw [ha]; exact putSel_on (e := (1, 61, .slice (some ad) g.dl.length n3)) 1 rfl rfl (hon 1 rfl) rfl
        have e62 : a.tmps[62]? = some (.int .i64 (k : Int)) := by rw [ha]; exact putSel_on (e := (2, 62, .int .i64 (k : Int))) 2 rfl rfl (hon 2 rfl) rfl
        replace ha := aM_ ha
        have HB := aM_ QHB
        refine value_ (w1 := w') (v := .pointer (some (ad.add (k * 3)))) (by rfl) rfl ?_ ?_
        ·go_simp
         (try simp only [i64_w])
         try rfl
         try assumption
        refine hK.out _ _ ⟨(by rw [ha.out]; exact putSel_upk 3 hb_ rfl rfl rfl), QHB⟩
       refine steps_cons ?_ ?_
       ·rintro b a w' ⟨ha, QHB⟩ hb_ hon hoff
        refine ⟨_, rfl, fun K hK => ?_⟩
        have e63 : a.tmps[63]? = some (.pointer (some (ad.add (k * 3)))) := by rw [ha]; exact putSel_on (e := (3, 63, .pointer (some (ad.add (k * 3))))) 3 rfl rfl (hon 3 rfl) rfl
        replace ha := aM_ ha
        have HB := aM_ QHB
        have z0 := pw_cell_below HB.out p0
        have z1 := pw_cell_below HB.out p1
        have z2 := pw_cell_below HB.out p2
        refine value_ (w1 := w') (v := .agg #[.int .i64 da.region, .int .i64 da.adv, .slice Ai da.moves.length ci]) (by rfl) rfl ?_ ?_
        ·go_simp
         (try simp only [i64_w])
         try rfl
         try assumption
        refine hK.out _ _ ⟨(by rw [ha.out]; exact putSel_upk 4 hb_ rfl rfl rfl), QHB⟩
       refine steps_cons ?_ ?_
       ·rintro b a w' ⟨ha, QHB⟩ hb_ hon hoff
        refine ⟨_, rfl, fun K hK => ?_⟩
        have e3 : a.tmps[3]? = some (.pointer (some ⟨gB, 0, none⟩)) := by rw [ha]; exact (putSel_off rfl).trans rfl
        replace ha := aM_ ha
        have HB := aM_ QHB
        refine value_ (w1 := w') (v := .pointer (some ⟨gB, 6, none⟩)) (by rfl) rfl ?_ ?_
        ·go_simp
         (try simp only [i64_w])
         try rfl
         try assumption
        refine hK.out _ _ ⟨(by rw [ha.out]; exact putSel_upk 5 hb_ rfl rfl rfl), QHB⟩
       refine steps_cons ?_ ?_
       ·rintro b a w' ⟨ha, QHB⟩ hb_ hon hoff
        refine ⟨_, rfl, fun K hK => ?_⟩
        have e65 : a.tmps[65]? = some (.pointer (some ⟨gB, 6, none⟩)) := by rw [ha]; exact putSel_on (e := (5, 65, .pointer (some ⟨gB, 6, none⟩))) 5 rfl rfl (hon 5 rfl) rfl
        replace ha := aM_ ha
        have HB := aM_ QHB
        have z0 := pw_cell_below HB.out b6
        refine value_ (w1 := w') (v := .slice (some bd) x.dl.length m3) (by rfl) rfl ?_ ?_
        ·go_simp
         (try simp only [i64_w])
         try rfl
         try assumption
        refine hK.out _ _ ⟨(by rw [ha.out]; exact putSel_upk 6 hb_ rfl rfl rfl), QHB⟩
       refine steps_cons ?_ ?_
       ·rintro b a w' ⟨ha, QHB⟩ hb_ hon hoff
        refine ⟨_, rfl, fun K hK => ?_⟩
        have e5 : a.tmps[5]? = some (.int .i64 (k : Int)) := by rw [ha]; exact (putSel_off rfl).trans rfl
        replace ha := aM_ ha
        have HB := aM_ QHB
        refine value_ (w1 := w') (v := .int .i64 (k : Int)) (by rfl) rfl ?_ ?_
        ·go_simp
         (try simp only [i64_w])
         try rfl
         try assumption
        refine hK.out _ _ ⟨(by rw [ha.out]; exact putSel_upk 7 hb_ rfl rfl rfl), QHB⟩
       refine steps_cons ?_ ?_
       ·rintro b a w' ⟨ha, QHB⟩ hb_ hon hoff
        refine ⟨_, rfl, fun K hK => ?_⟩
        have e66 : a.tmps[66]? = some (.slice (some bd) x.dl.length m3) := by rw [ha]; exact putSel_on (e := (6, 66, .slice (some bd) x.dl.length m3)) 6 rfl rfl (hon 6 rfl) rfl
        have e67 : a.tmps[67]? = some (.int .i64 (k : Int)) := by rw [ha]; exact putSel_on (e := (7, 67, .int .i64 (k : Int))) 7 rfl rfl (hon 7 rfl) rfl
        replace ha := aM_ ha
        have HB := aM_ QHB
        refine value_ (w1 := w') (v := .pointer (some (bd.add (k * 3)))) (by rfl) rfl ?_ ?_
        ·go_simp
         (try simp only [i64_w])
         try rfl
         try assumption
        refine hK.out _ _ ⟨(by rw [ha.out]; exact putSel_upk 8 hb_ rfl rfl rfl), QHB⟩
       refine steps_cons ?_ ?_
       ·rintro b a w' ⟨ha, QHB⟩ hb_ hon hoff
        refine ⟨_, rfl, fun K hK => ?_⟩
        have e68 : a.tmps[68]? = some (.pointer (some (bd.add (k * 3)))) := by rw [ha]; exact putSel_on (e := (8, 68, .pointer (some (bd.add (k * 3))))) 8 rfl rfl (hon 8 rfl) rfl
        replace ha := aM_ ha
        have HB := aM_ QHB
        have z0 := pw_cell_below HB.out q0
        have z1 := pw_cell_below HB.out q1
        have z2 := pw_cell_below HB.out q2
        refine value_ (w1 := w') (v := .agg #[.int .i64 db.region, .int .i64 db.adv, .slice Bi db.moves.length di]) (by rfl) rfl ?_ ?_
        ·go_simp
         (try simp only [i64_w])
         try rfl
         try assumption
        refine hK.out _ _ ⟨(by rw [ha.out]; exact putSel_upk 9 hb_ rfl rfl rfl), QHB⟩
       refine steps_cons ?_ ?_
       ·rintro b a w' ⟨ha, QHB⟩ hb_ hon hoff
        refine ⟨_, rfl, fun K hK => ?_⟩
        have e64 : a.tmps[64]? = some (.agg #[.int .i64 da.region, .int .i64 da.adv, .slice Ai da.moves.length ci]) := by rw [ha]; exact putSel_on (e := (4, 64, .agg #[.int .i64 da.region, .int .i64 da.adv, .slice Ai da.moves.length ci])) 4 rfl rfl (hon 4 rfl) rfl
        have e69 : a.tmps[69]? = some (.agg #[.int .i64 db.region, .int .i64 db.adv, .slice Bi db.moves.length di]) := by rw [ha]; exact putSel_on (e := (9, 69, .agg #[.int .i64 db.region, .int .i64 db.adv, .slice Bi db.moves.length di])) 9 rfl rfl (hon 9 rfl) rfl
        replace ha := aM_ ha
        have HB := aM_ QHB
        refine call_ 36 #[.agg #[.int .i64 da.region, .int .i64 da.adv, .slice Ai da.moves.length ci], .agg #[.int .i64 db.region, .int .i64 db.adv, .slice Bi db.moves.length di]] (by rfl) rfl ?_ ?_
        ·go_simp
        refine (rsDl_any da db Ai ci Bi di w' (Kd.C_below HM.out HB.out) (Kd.C_below HN_.out HB.out)).mono ?_
        rintro e w2' ⟨rfl, hb⟩
        refine ⟨_, rfl, ?_⟩
        refine hK.out _ _ ⟨(by rw [ha.out]; exact putSel_upk 10 hb_ rfl rfl rfl), bthen' HB.out hb⟩
       refine steps_cons ?_ ?_
       ·rintro b a w' ⟨ha, QHB⟩ hb_ hon hoff
        refine ⟨_, rfl, fun K hK => ?_⟩
        have e70 : a.tmps[70]? = some (.bool (decide (da = db))) := by rw [ha]; exact putSel_on (e := (10, 70, .bool (decide (da = db)))) 10 rfl rfl (hon 10 rfl) rfl
        replace ha := aM_ ha
        have HB := aM_ QHB
        refine value_ (w1 := w') (v := .bool (!decide (da = db))) (by rfl) rfl ?_ ?_
        ·go_simp
         (try simp only [i64_w])
         try rfl
         try assumption
        refine hK.out _ _ ⟨(by rw [ha.out]; exact putSel_upk 11 hb_ rfl rfl rfl), QHB⟩
       exact steps_nil
      ·rintro b a w' hall ⟨ha, QHB⟩
       clear HB
       have hb0_ := hall 0 (by kernel_rfl)
       have hb1_ := hall 1 (by kernel_rfl)
       have hb2_ := hall 2 (by kernel_rfl)
       have hb3_ := hall 3 (by kernel_rfl)
       have hb4_ := hall 4 (by kernel_rfl)
       have hb5_ := hall 5 (by kernel_rfl)
       have hb6_ := hall 6 (by kernel_rfl)
       have hb7_ := hall 7 (by kernel_rfl)
       have hb8_ := hall 8 (by kernel_rfl)
       have hb9_ := hall 9 (by kernel_rfl)
       have hb10_ := hall 10 (by kernel_rfl)
       have hb11_ := hall 11 (by kernel_rfl)
       subst ha
       simp only [putSel, hb0_, hb1_, hb2_, hb3_, hb4_, hb5_, hb6_, hb7_, hb8_, hb9_, hb10_, hb11_, if_true, Act.put, List.setIfInBounds_toArray, List.set_cons_zero, List.set_cons_succ]
       have HB := aM_ QHB
       clear QHB
       clear hall hb0_ hb1_ hb2_ hb3_ hb4_ hb5_ hb6_ hb7_ hb8_ hb9_ hb10_ hb11_
       generalize w' = w5 at *
       have HX5 := lH_ (bthen' HBr.out HB.out)
       by_cases hab : da = db
       ·have HE2 := lH_ (HY.out hab)
        have e1 : decide (da = db) = true := decide_eq_true hab
        rw [e1]
        clear e1 hab
        go_wp2_with fail
        exact ⟨⟨k + 1, by go_num, by have := of_decide_eq_true d1; omega, HE2, HX5⟩, by have := of_decide_eq_true d1; simp [intOf]; omega⟩
       ·have HE2 := lH_ (HN.out hab)
        have e1 : decide (da = db) = false := decide_eq_false hab
        rw [e1]
        clear e1 hab
        go_wp2_with fail
        go_ret
        exact ⟨ret_bool (by rw [HE.out, HE2.out, Bool.and_false]), bthen' HX.out HX5.out⟩
     ·have d1 : decide (k < g.dl.length) = false := decide_eq_false hlt
      go_wp2_with fail
      have HEM := lH_ (show decide (g.dl = x.dl) = true from decide_eq_true (by have h := HT.out; rwa [List.take_of_length_le (by omega), List.take_of_length_le (by have := HL.out; omega)] at h))
      clear HT hlt
      generalize wr = wo at *
      go_loopw [6] (fun i wr => ∃ j : Nat, i = .int .i64 j ∧ j ≤ g.pr.length ∧ Hid (g.pr.take j = x.pr.take j) ∧ Hid (Below wo.heap.size wo wr)) (fun i _ => g.pr.length - (intOf i).toNat)
      case atStart => exact ⟨0, rfl, Nat.zero_le _, lH_ rfl, lH_ (Below.refl _ _)⟩
      case round =>
       obtain ⟨j, rfl, hj, HTJ, HBj⟩ := hrel
       have HXj := lH_ (bthen' HXr.out HBj.out)
       have HAj := lH_ (HA_.out.below HBj.out)
       have HBB := lH_ (HB_.out.below HBj.out)
       have a7 := HAj.out.cell 7
       simp only [gA_, gZ_, gS_] at a7
       have b7 := HBB.out.cell 7
       simp only [gA_, gZ_, gS_] at b7
       by_cases hjt : j < g.pr.length
       ·have d2 : decide (j < g.pr.length) = true := decide_eq_true hjt
        have hjt2 : j < x.pr.length := by rw [← HLP.out]; exact hjt
        obtain ⟨ad, c0, c1, hAd, hK, p0, p1⟩ := el2 (d := kI2) rfl (HG.out.below HXj.out).pr zI2 j hjt
        have hk2 := kI2_open hK
        simp only [List.cons.injEq, and_true] at hk2
        obtain ⟨rfl, rfl⟩ := hk2
        subst hAd
        clear hK
        obtain ⟨bd, c0, c1, hAd, hK, q0, q1⟩ := el2 (d := kI2) rfl (HK.out.below HXj.out).pr zI2 j hjt2
        have hk2 := kI2_open hK
        simp only [List.cons.injEq, and_true] at hk2
        obtain ⟨rfl, rfl⟩ := hk2
        subst hAd
        clear hK
        have HY := lH_ (fun h => eq_take_succ g.pr x.pr zI2 j hjt hjt2 HTJ.out h)
        have HN := lH_ (fun h => decide_eq_false (@ne_getD _ g.pr x.pr zI2 j h))
        generalize g.pr.getD j zI2 = m at *
        generalize x.pr.getD j zI2 = n at *
        have b0 : (0 : Int) ≤ (j : Int) := by omega
        have b1 : (j : Int) < (g.pr.length : Int) := by omega
        have b2 : (j : Int) < (x.pr.length : Int) := by omega
        clear HTJ hjt2
        go_upto_region 11 with fail
        rcases Bool.eq_false_or_eq_true (m.a == n.a && (m.b == n.b)) with qh | qh
        ·have HE2 := lH_ (HY.out (by rw [Bool.and_eq_true, beq_iff_eq, beq_iff_eq] at qh; obtain ⟨x, y⟩ := m; obtain ⟨u, v⟩ := n; dsimp only at qh; rw [qh.1, qh.2]))
         go_quiet (fail)
         have HB4 := lH_ (bdrewN HBj.out nq)
         generalize wr.drewN nq = w4 at *
         go_wp2_with fail
         exact ⟨⟨j + 1, by go_num, by omega, HE2, HB4⟩, by simp [intOf]; omega⟩
        ·have HE2 := lH_ (HN.out (by rintro rfl; simp at qh))
         go_quiet (fail)
         have HB4 := lH_ (bdrewN HBj.out nq)
         generalize wr.drewN nq = w4 at *
         go_wp2_with fail
         go_ret
         exact ⟨ret_bool (by rw [HE.out, HE2.out]; simp), bthen' HXr.out HB4.out⟩
       ·have d2 : decide (j < g.pr.length) = false := decide_eq_false hjt
        have HE2 := lH_ (show decide (g.pr = x.pr) = true from decide_eq_true (by have h := HTJ.out; rwa [List.take_of_length_le (by omega), List.take_of_length_le (by have := HLP.out; omega)] at h))
        clear hjt
        go_wp2_with fail
        go_ret
        exact ⟨ret_bool (by rw [HE.out]; simp only [HC.out, HA.out, HH.out, HV.out, HEM.out, HE2.out]; rfl), HXj.out⟩
   ·have HH := lH_ ((hangEq g.hang x.hang).trans qh)
    go_wp2_with fail
    go_ret
    exact ⟨ret_bool (by rw [HE.out, HH.out]; simp), HX.out⟩
  ·rw [q2]
   have HA := lH_ q2
   clear q2
   go_wp2_with fail
   go_ret
   exact ⟨ret_bool (by rw [HE.out]; simp only [HC.out, HA.out]; rfl), HX.out⟩
 ·rw [q1]
  have HC := lH_ q1
  clear q1
  go_wp2_with fail
  go_ret
  exact ⟨ret_bool (by rw [HE.out]; simp only [HC.out]; rfl), HX.out⟩
end Go.Proofs.Ythpccdhmppbkfaa
/- Arguments that are read: what their values look like. -/
namespace Go.Proofs.Ythpccdhmppbkfaa
open Go.ChangeShapes Go.WideShapes Go.ChangeAt Go.RowKit Go.Joins
section
variable {H : Type} {enc : TypeId × Value → H} {P : Program} {w : World} {base : Nat} {spare : Nat → Bool} {held : Bool} {fuel : Nat} {t e : TypeId} {cs : List Value} {x : DataW H × List MemPlace}
theorem rd_ints {n : Nat} {k : IntKind} (ht : P.underlying t = some (.array n e)) (he : P.underlying e = some (.int k)) (hc : P.cellsOf e = 1) (hC : P.cellsOf t = n) (h : DataW.trod enc P w base spare held fuel t cs = some x) :
  ∃ xs : List Int, xs.length = n ∧ cs = xs.map (Value.int k) ∧ ∀ y ∈ xs, (Lit.int k y).wf = true := by
 obtain ⟨ys, m, rfl, rfl, hl, hn, hy⟩ := DataW.trod_array ht h
 rw [hC] at hl
 have key : ∀ i (hi : i < cs.length), ∃ z, cs[i] = .int k z ∧ (Lit.int k z).wf = true := by
  intro i hi
  have hh := hy i (by omega)
  rw [hc, Nat.mul_one] at hh
  have h2 : (cs.drop i).take 1 = [cs[i]] := by rw [List.drop_eq_getElem_cons hi]; rfl
  rw [h2, List.getElem?_eq_getElem (by omega)] at hh
  obtain ⟨z, hz, _, hw⟩ := DataW.trod_int he hh
  exact ⟨z, by simpa using hz, hw⟩
 clear hy
 refine ⟨cs.map (fun v => match v with | .int _ z => z | _ => 0), by simpa using hl, ?_, ?_⟩
 ·apply List.ext_getElem
  ·simp
  ·intro i h1 h2
   obtain ⟨z, hz, _⟩ := key i h1
   simp [hz]
 ·intro y hy
  rw [List.mem_map] at hy
  obtain ⟨v, hv, rfl⟩ := hy
  obtain ⟨i, hi, rfl⟩ := List.getElem_of_mem hv
  obtain ⟨z, hz, hw⟩ := key i hi
  simpa [hz] using hw
end
/- The argument Case is read. -/
open Go.Proofs.YthpccdhmppbkfaaW.PrintWords Go.Proofs.YthpccdhmppbkfaaW.PrintLast
def ReadsT {α : Type} (d : Kd α) (P : Program) (e : TypeId) : Prop :=
 ∀ (H : Type) (enc : TypeId × Value → H) (w : World) (base : Nat) (spare : Nat → Bool) (held : Bool) (fuel : Nat) (cs : List Value) (x : DataW H × List MemPlace), DataW.trod enc P w base spare held fuel e cs = some x → ∃ p, d.K w p cs
theorem list_choose {α : Type} {Q : Nat → α → Prop} : ∀ {n : Nat}, (∀ i, i < n → ∃ p, Q i p) → ∃ xs : List α, xs.length = n ∧ ∀ j p, xs[j]? = some p → Q j p
 | 0, _ => ⟨[], rfl, fun j p h => by simp at h⟩
 | n + 1, h => by
  obtain ⟨xs, hl, hx⟩ := list_choose (n := n) fun i hi => h i (Nat.lt_succ_of_lt hi)
  obtain ⟨p, hp⟩ := h n (Nat.lt_succ_self n)
  refine ⟨xs ++ [p], by simp [hl], fun j q hq => ?_⟩
  rcases Nat.lt_or_ge j n with hj | hj
  ·rw [List.getElem?_append_left (by omega)] at hq
   exact hx j q hq
  ·rw [List.getElem?_append_right (by omega), hl] at hq
   have : j - n = 0 := by
    rcases Nat.eq_zero_or_pos (j - n) with h | h
    ·exact h
    ·rw [List.getElem?_eq_none (by simp; omega)] at hq; cases hq
   rw [this] at hq
   obtain rfl : p = q := by simpa using hq
   rw [show j = n by omega]
   exact hp
theorem reads_int {P : Program} {e : TypeId} {k : IntKind} (he : P.underlying e = some (.int k)) : ReadsT (Kd.int k) P e := by
 intro H enc w base spare held fuel cs x h
 obtain ⟨n, hn, _⟩ := DataW.trod_int he h
 exact ⟨n, hn⟩
theorem reads_slice {α : Type} {d : Kd α} {P : Program} {t e : TypeId} (ht : P.underlying t = some (.slice e)) (hc : P.cellsOf e = d.sz) (h : ReadsT d P e) : ReadsT (Kd.slice e d) P t := by
 intro H enc w base spare held fuel cs x hx
 rcases Deep.open_slice ht hx with ⟨rfl, _⟩ | ⟨a, len, cap, m, n, D, Pl, rfl, hb, hl, hm, hmm, _, hel⟩
 ·exact ⟨[], none, 0, rfl, Nat.le_refl _, rfl, Nat.zero_le _, fun h => absurd h (Nat.lt_irrefl _)⟩
 ·have hlm : len ≤ m := by rw [hmm]; split <;> omega
  obtain ⟨xs, hxl, hxs⟩ := list_choose (n := len) (Q := fun j p => ∃ c, c.length = d.sz ∧ d.K w p c ∧ ∀ i u, c[i]? = some u → w.cell? (a.add (j * d.sz + i)) = some u) (by
   intro i hi
   obtain ⟨cs', h1, h2⟩ := hel i (by omega)
   rw [hc] at h1
   obtain ⟨_, hlen, hcell⟩ := World.cells?_some h1
   obtain ⟨p, hp⟩ := h H enc w base spare held n cs' _ h2
   refine ⟨p, cs', d.K_len hp, hp, fun j u hu => ?_⟩
   have hj : j < d.sz := by
    rcases Nat.lt_or_ge j d.sz with hlt | hge
    ·exact hlt
    ·rw [List.getElem?_eq_none (by rw [d.K_len hp]; exact hge)] at hu; cases hu
   have e0 := hcell j hj
   rw [Deep.add_add] at e0
   rw [e0, hu])
  refine ⟨xs, some a, cap, by rw [hxl], by omega, rfl, ?_, fun _ => ⟨a, rfl, hxs⟩⟩
  rw [hxl]
  unfold maxLen at hm
  omega
theorem okWide_struct {P : Program} {w : World} {base : Nat} {t : TypeId} {fs : Array Field} {r : Reach} {v : Value} (ht : P.underlying t = some (.struct fs)) (h : Value.okWide P w r base t v) : ∃ cs, v = .agg cs ∧ cs.size = P.cellsOf t := by
 simp only [Value.okWide, ht] at h
 obtain ⟨cs, h1, h2, _⟩ := h
 exact ⟨cs, h1, h2⟩
theorem u8_in {x : Int} (h : (Lit.int .u8 x).wf = true) : 0 ≤ x ∧ x ≤ 255 := by
 simp [Lit.wf, IntKind.min, IntKind.max, IntKind.signed, IntKind.bits] at h
 omega
structure CaseA (w : World) (v : Value) (l1 l2 l3 : List Int) (A1 A2 A3 : Option Addr) (c1 c2 c3 : Nat) (o0 o1 o2 x y : Int) : Prop where
 val : v = .agg #[.slice A1 l1.length c1, .slice A2 l2.length c2, .slice A3 l3.length c3, .int .i64 o0, .int .i64 o1, .int .i64 o2, .int .u8 x, .int .u8 y]
 x_ : 0 ≤ x ∧ x ≤ 255
 y_ : 0 ≤ y ∧ y ≤ 255
 h1 : Kd.C kI w A1 l1.length l1
 h2 : Kd.C kI w A2 l2.length l2
 h3 : Kd.C kI w A3 l3.length l3
 h4 : l2.length ≤ c2
theorem arg_case {H : Type} {enc : TypeId × Value → H} {w : World} {base : Nat} {spare : Nat → Bool} {held : Bool} {r : Reach} {b0 : Nat} {v : Value} {d : DataW H} {p : List MemPlace} {f0 f1 f2 f3 f4 f5 : Field}
  (ht : Try.prog.underlying 33 = some (.struct #[f0, f1, f2, f3, f4, f5])) (t0 : f0.type = 30) (t1 : f1.type = 30) (t2 : f2.type = 30) (t3 : f3.type = 31) (t4 : f4.type = 5) (t5 : f5.type = 5)
  (o0 : f0.offset = 0) (o1 : f1.offset = 1) (o2 : f2.offset = 2) (o3 : f3.offset = 3) (o4 : f4.offset = 6) (o5 : f5.offset = 7)
  (hv : Value.okWide Try.prog w r b0 33 v) (h : DataW.Trod enc Try.prog w base spare held 33 v d p) :
  ∃ l1 l2 l3 A1 A2 A3 c1 c2 c3 o0 o1 o2 x y, CaseA w v l1 l2 l3 A1 A2 A3 c1 c2 c3 o0 o1 o2 x y := by
 obtain ⟨cs, rfl, hsz⟩ := okWide_struct ht hv
 obtain ⟨fuel, hf⟩ := h
 have hsz8 : cs.size = 8 := by rw [hsz]; kernel_rfl
 obtain ⟨cs⟩ := cs
 have hcl : cs.length = 8 := hsz8
 obtain ⟨xs, k, hk, hxy, _, hxl, hh⟩ := DataW.trod_struct ht hf
 have z1 : Try.prog.cellsOf 30 = 1 := by kernel_rfl
 have z3 : Try.prog.cellsOf 31 = 3 := by kernel_rfl
 have z8 : Try.prog.cellsOf 5 = 1 := by kernel_rfl
 match xs, hxl, cs, hcl with
 | [y0, y1, y2, y3, y4, y5], _, [v0, v1, v2, v3, v4, v5, v6, v7], _ =>
  have q0 := hh 0 f0 rfl
  have q1 := hh 1 f1 rfl
  have q2 := hh 2 f2 rfl
  have q3 := hh 3 f3 rfl
  have q4 := hh 4 f4 rfl
  have q5 := hh 5 f5 rfl
  simp [o0, o1, o2, o3, o4, o5, t0, t1, t2, t3, t4, t5, z1, z3, z8, Value.cells] at q0 q1 q2 q3 q4 q5
  have RI := reads_slice (d := kI) Try.underlying30 (by kernel_rfl) (reads_int Try.underlying3)
  obtain ⟨l1, A1, c1, e1, k1, C1⟩ := RI _ _ _ _ _ _ _ _ _ q0
  obtain ⟨l2, A2, c2, e2, k2, C2⟩ := RI _ _ _ _ _ _ _ _ _ q1
  obtain ⟨l3, A3, c3, e3, k3, C3⟩ := RI _ _ _ _ _ _ _ _ _ q2
  obtain ⟨zs, hz1, hz2, _⟩ := rd_ints Try.underlying31 Try.underlying3 (by kernel_rfl) (by kernel_rfl) q3
  obtain ⟨x, hx, _, wx⟩ := DataW.trod_int Try.underlying5 q4
  obtain ⟨y, hy, _, wy⟩ := DataW.trod_int Try.underlying5 q5
  match zs, hz1 with
  | [a, b, c], _ =>
   simp at e1 e2 e3 hz2 hx hy
   obtain ⟨rfl, rfl, rfl⟩ := hz2
   subst e1 e2 e3 hx hy
   exact ⟨l1, l2, l3, A1, A2, A3, c1, c2, c3, a, b, c, x, y, rfl, u8_in wx, u8_in wy, C1, C2, C3, k2⟩
/- The argument Glyph is read. -/
theorem reads_kPt {P : Program} {e : TypeId} {f0 f1 f2 : Field} (he : P.underlying e = some (.struct #[f0, f1, f2])) (o0 : f0.offset = 0) (o1 : f1.offset = 1) (o2 : f2.offset = 2)
  (c0 : P.cellsOf f0.type = 1) (c1 : P.cellsOf f1.type = 1) (c2 : P.cellsOf f2.type = 1) (ce : P.cellsOf e = 3) (u0 : P.underlying f0.type = some (.int .i64)) (u1 : P.underlying f1.type = some (.int .i64)) (u2 : P.underlying f2.type = some .bool) : ReadsT kPt P e := by
 intro H enc w base spare held fuel cs x h
 obtain ⟨xs, k, hk, hxy, hcl, hxl, hf⟩ := DataW.trod_struct he h
 rw [ce] at hcl
 match xs, hxl, cs, hcl with
 | [y0, y1, y2], _, [v0, v1, v2], _ =>
  have g0 := hf 0 f0 rfl
  have g1 := hf 1 f1 rfl
  have g2 := hf 2 f2 rfl
  simp [o0, o1, o2, c0, c1, c2] at g0 g1 g2
  obtain ⟨z0, hz0, _⟩ := DataW.trod_int u0 g0
  obtain ⟨z1, hz1, _⟩ := DataW.trod_int u1 g1
  obtain ⟨b, hb, _⟩ := DataW.trod_bool u2 g2
  simp at hz0 hz1 hb
  subst hz0 hz1 hb
  exact ⟨⟨z0, z1, b⟩, kPt_mk _ ⟨z0, z1, b⟩⟩
theorem reads_kI3 {P : Program} {e : TypeId} {f0 f1 f2 : Field} (he : P.underlying e = some (.struct #[f0, f1, f2])) (o0 : f0.offset = 0) (o1 : f1.offset = 1) (o2 : f2.offset = 2)
  (c0 : P.cellsOf f0.type = 1) (c1 : P.cellsOf f1.type = 1) (c2 : P.cellsOf f2.type = 1) (ce : P.cellsOf e = 3) (u0 : P.underlying f0.type = some (.int .i64)) (u1 : P.underlying f1.type = some (.int .i64)) (u2 : P.underlying f2.type = some (.int .i64)) : ReadsT kI3 P e := by
 intro H enc w base spare held fuel cs x h
 obtain ⟨xs, k, hk, hxy, hcl, hxl, hf⟩ := DataW.trod_struct he h
 rw [ce] at hcl
 match xs, hxl, cs, hcl with
 | [y0, y1, y2], _, [v0, v1, v2], _ =>
  have g0 := hf 0 f0 rfl
  have g1 := hf 1 f1 rfl
  have g2 := hf 2 f2 rfl
  simp [o0, o1, o2, c0, c1, c2] at g0 g1 g2
  obtain ⟨z0, hz0, _⟩ := DataW.trod_int u0 g0
  obtain ⟨z1, hz1, _⟩ := DataW.trod_int u1 g1
  obtain ⟨z2, hz2, _⟩ := DataW.trod_int u2 g2
  simp at hz0 hz1 hz2
  subst hz0 hz1 hz2
  exact ⟨⟨z0, z1, z2⟩, kI3_mk _ ⟨z0, z1, z2⟩⟩
theorem reads_kI2s {P : Program} {e : TypeId} {f0 f1 : Field} (he : P.underlying e = some (.struct #[f0, f1])) (o0 : f0.offset = 0) (o1 : f1.offset = 1)
  (c0 : P.cellsOf f0.type = 1) (c1 : P.cellsOf f1.type = 1) (ce : P.cellsOf e = 2) (u0 : P.underlying f0.type = some (.int .i64)) (u1 : P.underlying f1.type = some (.int .i64)) : ReadsT kI2 P e := by
 intro H enc w base spare held fuel cs x h
 obtain ⟨xs, k, hk, hxy, hcl, hxl, hf⟩ := DataW.trod_struct he h
 rw [ce] at hcl
 match xs, hxl, cs, hcl with
 | [y0, y1], _, [v0, v1], _ =>
  have g0 := hf 0 f0 rfl
  have g1 := hf 1 f1 rfl
  simp [o0, o1, c0, c1] at g0 g1
  obtain ⟨z0, hz0, _⟩ := DataW.trod_int u0 g0
  obtain ⟨z1, hz1, _⟩ := DataW.trod_int u1 g1
  simp at hz0 hz1
  subst hz0 hz1
  exact ⟨⟨z0, z1⟩, kI2_mk _ ⟨z0, z1⟩⟩
theorem reads_kI2a {P : Program} {t e : TypeId} (ht : P.underlying t = some (.array 2 e)) (he : P.underlying e = some (.int .i64)) (hc : P.cellsOf e = 1) (hC : P.cellsOf t = 2) : ReadsT kI2 P t := by
 intro H enc w base spare held fuel cs x h
 obtain ⟨zs, hz1, hz2, _⟩ := rd_ints ht he hc hC h
 match zs, hz1 with
 | [a, b], _ =>
  subst hz2
  exact ⟨⟨a, b⟩, kI2_mk _ ⟨a, b⟩⟩
theorem reads_kDl {P : Program} {e t m : TypeId} {f0 f1 f2 : Field} (he : P.underlying e = some (.struct #[f0, f1, f2])) (o0 : f0.offset = 0) (o1 : f1.offset = 1) (o2 : f2.offset = 2)
  (c0 : P.cellsOf f0.type = 1) (c1 : P.cellsOf f1.type = 1) (c2 : P.cellsOf f2.type = 1) (ce : P.cellsOf e = 3) (u0 : P.underlying f0.type = some (.int .i64)) (u1 : P.underlying f1.type = some (.int .i64)) (t2 : f2.type = t) (hm : ReadsT (Kd.slice m kI2) P t) (hmt : m = 62) : ReadsT kDl P e := by
 intro H enc w base spare held fuel cs x h
 obtain ⟨xs, k, hk, hxy, hcl, hxl, hf⟩ := DataW.trod_struct he h
 rw [ce] at hcl
 match xs, hxl, cs, hcl with
 | [y0, y1, y2], _, [v0, v1, v2], _ =>
  have g0 := hf 0 f0 rfl
  have g1 := hf 1 f1 rfl
  have g2 := hf 2 f2 rfl
  simp [o0, o1, o2, c0, c1, c2] at g0 g1 g2
  rw [t2] at g2
  obtain ⟨z0, hz0, _⟩ := DataW.trod_int u0 g0
  obtain ⟨z1, hz1, _⟩ := DataW.trod_int u1 g1
  obtain ⟨l, A, c, e1, k1, C1⟩ := hm _ _ _ _ _ _ _ _ _ g2
  simp at hz0 hz1 e1
  subst hz0 hz1 e1
  exact ⟨⟨z0, z1, l⟩, kDl_mk (x := ⟨z0, z1, l⟩) k1 C1⟩
theorem reads_points : ReadsT kCt Try.prog 71 := reads_slice (d := kPt) Try.underlying71 (by kernel_rfl) (reads_kPt Try.underlying73 rfl rfl rfl (by kernel_rfl) (by kernel_rfl) (by kernel_rfl) (by kernel_rfl) Try.underlying3 Try.underlying3 Try.underlying4)
theorem reads_contours : ReadsT (Kd.slice 71 kCt) Try.prog 22 := reads_slice Try.underlying22 (by kernel_rfl) reads_points
theorem reads_anchor : ReadsT kI3 Try.prog 25 := reads_kI3 Try.underlying25 rfl rfl rfl (by kernel_rfl) (by kernel_rfl) (by kernel_rfl) (by kernel_rfl) Try.underlying3 Try.underlying3 Try.underlying3
theorem reads_anchors : ReadsT (Kd.slice 25 kI3) Try.prog 23 := reads_slice Try.underlying23 (by kernel_rfl) reads_anchor
theorem reads_moves : ReadsT (Kd.slice 62 kI2) Try.prog 57 := reads_slice Try.underlying57 (by kernel_rfl) (reads_kI2a Try.underlying62 Try.underlying3 (by kernel_rfl) (by kernel_rfl))
theorem reads_deltas : ReadsT (Kd.slice 59 kDl) Try.prog 26 := reads_slice Try.underlying26 (by kernel_rfl) (reads_kDl Try.underlying59 rfl rfl rfl (by kernel_rfl) (by kernel_rfl) (by kernel_rfl) (by kernel_rfl) Try.underlying3 Try.underlying3 rfl reads_moves rfl)
theorem reads_prog : ReadsT (Kd.slice 41 kI2) Try.prog 27 := reads_slice Try.underlying27 (by kernel_rfl) (reads_kI2s Try.underlying41 rfl rfl (by kernel_rfl) (by kernel_rfl) (by kernel_rfl) Try.underlying3 Try.underlying3)
theorem arg_glyph {H : Type} {enc : TypeId × Value → H} {w : World} {base : Nat} {spare : Nat → Bool} {held : Bool} {r : Reach} {b0 : Nat} {v : Value} {d : DataW H} {p : List MemPlace} {f0 f1 f2 f3 f4 f5 : Field}
  (ht : Try.prog.underlying 29 = some (.struct #[f0, f1, f2, f3, f4, f5])) (t0 : f0.type = 22) (t1 : f1.type = 23) (t2 : f2.type = 25) (t3 : f3.type = 3) (t4 : f4.type = 26) (t5 : f5.type = 27)
  (o0 : f0.offset = 0) (o1 : f1.offset = 1) (o2 : f2.offset = 2) (o3 : f3.offset = 5) (o4 : f4.offset = 6) (o5 : f5.offset = 7)
  (hv : Value.okWide Try.prog w r b0 29 v) (h : DataW.Trod enc Try.prog w base spare held 29 v d p) :
  ∃ g hd, v = .agg (gv g hd) ∧ GlR w g hd := by
 obtain ⟨cs, rfl, hsz⟩ := okWide_struct ht hv
 obtain ⟨fuel, hf⟩ := h
 have hsz8 : cs.size = 8 := by rw [hsz]; kernel_rfl
 obtain ⟨cs⟩ := cs
 have hcl : cs.length = 8 := hsz8
 obtain ⟨xs, k, hk, hxy, _, hxl, hh⟩ := DataW.trod_struct ht hf
 have z0 : Try.prog.cellsOf 22 = 1 := by kernel_rfl
 have z1 : Try.prog.cellsOf 23 = 1 := by kernel_rfl
 have z2 : Try.prog.cellsOf 25 = 3 := by kernel_rfl
 have z3 : Try.prog.cellsOf 3 = 1 := by kernel_rfl
 have z4 : Try.prog.cellsOf 26 = 1 := by kernel_rfl
 have z5 : Try.prog.cellsOf 27 = 1 := by kernel_rfl
 match xs, hxl, cs, hcl with
 | [y0, y1, y2, y3, y4, y5], _, [v0, v1, v2, v3, v4, v5, v6, v7], _ =>
  have q0 := hh 0 f0 rfl
  have q1 := hh 1 f1 rfl
  have q2 := hh 2 f2 rfl
  have q3 := hh 3 f3 rfl
  have q4 := hh 4 f4 rfl
  have q5 := hh 5 f5 rfl
  simp [o0, o1, o2, o3, o4, o5, t0, t1, t2, t3, t4, t5, z0, z1, z2, z3, z4, z5, Value.cells] at q0 q1 q2 q3 q4 q5
  obtain ⟨l1, A1, c1, e1, k1, C1⟩ := reads_contours _ _ _ _ _ _ _ _ _ q0
  obtain ⟨l2, A2, c2, e2, k2, C2⟩ := reads_anchors _ _ _ _ _ _ _ _ _ q1
  obtain ⟨hg, hK⟩ := reads_anchor _ _ _ _ _ _ _ _ _ q2
  have e3 := kI3_open hK
  obtain ⟨av, e4, _⟩ := DataW.trod_int Try.underlying3 q3
  obtain ⟨l3, A3, c3, e5, k3, C3⟩ := reads_deltas _ _ _ _ _ _ _ _ _ q4
  obtain ⟨l4, A4, c4, e6, k4, C4⟩ := reads_prog _ _ _ _ _ _ _ _ _ q5
  simp at e1 e2 e3 e4 e5 e6
  obtain ⟨rfl, rfl, rfl⟩ := e3
  subst e1 e2 e4 e5 e6
  exact ⟨⟨l1, l2, hg, av, l3, l4⟩, ⟨A1, c1, A2, c2, A3, c3, A4, c4⟩, rfl, ⟨C1, C2, C3, C4, k1, k2, k3, k4⟩⟩

end Go.Proofs.Ythpccdhmppbkfaa