/- Kit, Range, OKd, OIdx, OFix, OAx: merged by wip/prune.py. -/
import Derived.Test.YthpccdhmppbkfaaRows
import Derived.WalkKit
import Derived.WalkSpells
import Derived.WalkLawsBesides
import Derived.Deep.QuietTactic
import Derived.BigQuiet
import Derived.Lib.Hide
import Derived.RegionTactic
import Derived.ChangeAlike
import Derived.RangeFuncNested
import Derived.RangeFuncBound
import Derived.RangeFuncCalls
import Derived.RangeFuncLeaves
import Derived.Shelf.Abstract
import Derived.OwnWalkIn
import Derived.TacticsInMore
import Derived.LoopNIn
import Derived.LoopIn
import Derived.RegionIn
import Derived.Sort.CutIn
import Derived.Maps.OwnIn
import Derived.Deep.AppendLies
import Derived.Test.YthpccdhmppbkfaaProg
import Derived.Below
import Derived.Deep.Draws
import Derived.Maps.AppendAt
import Derived.OwnWalk
import Derived.Laws.BytesArg
import Derived.Laws.MakeOwn
import Derived.Laws.OwnMore
import Derived.Deep.OwnRows
import Derived.Tactics
import Derived.Lib.ConvBytes
import Derived.Laws.Slices
import Derived.KernelRfl
import Derived.RowKit3
import Derived.Deep.LoopGhost
import Derived.WideLaws
import Derived.Deep.DeepCutAuto
import Derived.Deep.CutBlock
import Derived.Deep.RegionHeld3
import Derived.Laws.Rows
import Derived.Lib.AppendStr
import Derived.ArgAppend
import Derived.Laws.IdiomCopy
import Derived.OrdersHeld
import Derived.Laws.BitsLemmas
import Derived.RowKit
import Derived.StillTailTactics
import Derived.Test.YthpccdhmppbkfaaSa0
import Derived.Test.YthpccdhmppbkfaaSa1
/- Small lemmas on worlds that several proofs use. -/
set_option linter.unusedVariables false
set_option linter.unusedSimpArgs false
set_option maxRecDepth 100000
set_option maxHeartbeats 16000000
namespace Go.Proofs.Ythpccdhmppbkfaa
open Go.RowKit
theorem bdrewN {B : Nat} {a w : World} (h : Below B a w) (n : Nat) : Below B a (w.drewN n) := ⟨h.os, h.tape, h.output, h.size, h.block⟩
theorem bdrew {B : Nat} {a w : World} (h : Below B a w) : Below B a w.drew := h.drew
theorem balloc {w W : World} (h : Below w.heap.size w W) (o : Obj) : Below w.heap.size w (W.alloc o) := h.alloc h.size o
theorem bset {w W : World} {g : Nat} (h : Below w.heap.size w W) (hg : w.heap.size ≤ g) (j : Nat) (v : Value) : Below w.heap.size w (W.setCell ⟨g, j, none⟩ v) := h.setCell hg v
theorem bthen {B : Nat} {w w1 w2 : World} (h : Below B w w1) (hB : B ≤ w1.heap.size) (k : Below w1.heap.size w1 w2) : Below B w w2 :=
 h.trans ⟨k.os, k.tape, k.output, k.size, fun i hi => k.block i (Nat.lt_of_lt_of_le hi hB)⟩
theorem bthen' {w w1 w2 : World} (h : Below w.heap.size w w1) (k : Below w1.heap.size w1 w2) : Below w.heap.size w w2 := bthen h h.size k
theorem bcell {W w1 : World} (hb : Below W.heap.size W w1) : (∀ b o, b < W.heap.size → w1.cell? ⟨b, o, none⟩ = W.cell? ⟨b, o, none⟩) ∧ (∀ b o, b < W.heap.size → w1.frozen? ⟨b, o, none⟩ = W.frozen? ⟨b, o, none⟩) :=
 ⟨fun b o h => hb.cell (p := ⟨b, o, none⟩) h, fun b o h => hb.frozen (p := ⟨b, o, none⟩) h⟩
theorem ret_bool {a b : Bool} (h : a = b) : Ending.returned (.bool a) = .returned (.bool b) := by rw [h]
theorem ret_int {k : IntKind} {a b : Int} (h : a = b) : Ending.returned (.int k a) = .returned (.int k b) := by rw [h]
def Blk (w : World) (g : Nat) (cs : Array Value) (t : TypeId) : Prop := w.heap[g]? = some (.cells cs t (0, 0))
theorem Blk.new (w : World) (cs : Array Value) (t : TypeId) {g : Nat} (hg : g = w.heap.size) : Blk (w.alloc (.cells cs t (0, 0))) g cs t := by
 subst hg; exact heap_alloc_new w _
theorem Blk.lt {w : World} {g : Nat} {cs : Array Value} {t : TypeId} (h : Blk w g cs t) : g < w.heap.size := (Array.getElem?_eq_some_iff.1 h).1
theorem Blk.alloc {w : World} {g : Nat} {cs : Array Value} {t : TypeId} (h : Blk w g cs t) (o : Obj) : Blk (w.alloc o) g cs t := (Below.heap_alloc w o g h.lt).trans h
theorem Blk.drewN {w : World} {g : Nat} {cs : Array Value} {t : TypeId} (h : Blk w g cs t) (n : Nat) : Blk (w.drewN n) g cs t := h
theorem Blk.drew {w : World} {g : Nat} {cs : Array Value} {t : TypeId} (h : Blk w g cs t) : Blk w.drew g cs t := h
theorem Blk.below {w w1 : World} {g : Nat} {cs : Array Value} {t : TypeId} (h : Blk w g cs t) (hb : Below w.heap.size w w1) : Blk w1 g cs t := (hb.block g h.lt).trans h
theorem Blk.far {w : World} {g : Nat} {cs : Array Value} {t : TypeId} (h : Blk w g cs t) {g' : Nat} (hg : g ≠ g') (j : Nat) (v : Value) : Blk (w.setCell ⟨g', j, none⟩ v) g cs t := (Below.heap_setCell w ⟨g', j, none⟩ v g hg).trans h
theorem Blk.cell {w : World} {g : Nat} {cs : Array Value} {t : TypeId} (h : Blk w g cs t) (i : Nat) : w.cell? ⟨g, i, none⟩ = cs[i]? := by
 have := cell_of_row w g i cs t (0, 0) h
 exact this
theorem Blk.frozen {w : World} {g : Nat} {cs : Array Value} {t : TypeId} (h : Blk w g cs t) (i : Nat) : w.frozen? ⟨g, i, none⟩ = false := by
 unfold Blk at h; simp [World.frozen?, h]
theorem Blk.set {w : World} {g : Nat} {cs : Array Value} {t : TypeId} (h : Blk w g cs t) (i : Nat) (v : Value) : Blk (w.setCell ⟨g, i, none⟩ v) g (cs.setIfInBounds i v) t := by
 unfold Blk at *
 simp [World.setCell, Array.getElem?_modify, h]
theorem Blk.put {w : World} {g : Nat} {cs cs' : Array Value} {t : TypeId} (h : Blk w g cs t) (i : Nat) (v : Value) (e : cs.setIfInBounds i v = cs') : Blk (w.setCell ⟨g, i, none⟩ v) g cs' t := e ▸ h.set i v
theorem res_ct {fn : Func} {p u : Tmp} {ty : TypeId} (h : fn.results = #[.cell p ty, .tmp u]) (tmps : Array Value) (w : World) (g : Nat) (t : TypeId) (cs : Array Value) (d : TypeDesc)
  (hp : tmps.getD p undef = .pointer (some ⟨g, 0, none⟩)) (hg : Blk w g cs t)
  (hd : (match d with | .struct _ | .array _ _ => true | _ => false) = true) (hu : Try.prog.underlying ty = some d) (hi : (Try.prog.info? ty).map (·.size) = some cs.size) :
  (results fn tmps).run Try.prog w = .ok (.tuple #[.agg cs, tmps.getD u undef]) w := by
 have hp' : tmps[p]?.getD undef = .pointer (some ⟨g, 0, none⟩) := by simpa using hp
 simp [results, h, hp', asAddr, run_loadVar_row w g t ty cs (0, 0) d hg hu (by cases d <;> first | rfl | (simp at hd)) hi]
theorem res_c {fn : Func} {p : Tmp} {ty : TypeId} (h : fn.results = #[.cell p ty]) (tmps : Array Value) (w : World) (g : Nat) (t : TypeId) (cs : Array Value) (d : TypeDesc)
  (hp : tmps.getD p undef = .pointer (some ⟨g, 0, none⟩)) (hg : Blk w g cs t)
  (hd : (match d with | .struct _ | .array _ _ => true | _ => false) = true) (hu : Try.prog.underlying ty = some d) (hi : (Try.prog.info? ty).map (·.size) = some cs.size) :
  (results fn tmps).run Try.prog w = .ok (.agg cs) w := by
 have hp' : tmps[p]?.getD undef = .pointer (some ⟨g, 0, none⟩) := by simpa using hp
 simp [results, h, hp', asAddr, run_loadVar_row w g t ty cs (0, 0) d hg hu (by cases d <;> first | rfl | (simp at hd)) hi]
/- Ranges over functions: what a round keeps, an append in a round, the marks that a function leaves with. -/
open Go.Shelf Go.Proofs.YthpccdhmppbkfaaW.PrintWords Go.Proofs.YthpccdhmppbkfaaW.PrintLast Go.Proofs.YthpccdhmppbkfaaW.PrintMore
theorem J_below {α : Type} {J : List α → World → Prop} {B : Nat} (hJ : AbidesFrom B J) {s : List α} {W W' : World} (h : J s W) (hb : Below W.heap.size W W') : J s W' :=
 hJ s W W' none h (grown_of_below hb none) (fun r e => by cases e)
structure KpB (n₀ g : Nat) (W W' : World) : Prop where
 below : Below n₀ W W'
 same : ∀ o : Obj, o.isCells = true → W.heap[g]? = some o → W'.heap[g]? = some o
theorem KpB.refl (n₀ g : Nat) (W : World) : KpB n₀ g W W := ⟨Below.refl _ _, fun _ _ h => h⟩
theorem KpB.trans {n₀ g : Nat} {A B C : World} (h : KpB n₀ g A B) (k : KpB n₀ g B C) : KpB n₀ g A C := ⟨h.below.trans k.below, fun o ho e => k.same o ho (h.same o ho e)⟩
theorem KpB.of {n₀ g : Nat} {A B : World} (h : Below A.heap.size A B) (hn : n₀ ≤ A.heap.size) : KpB n₀ g A B := ⟨h.mono hn, fun o _ e => by
 rcases Nat.lt_or_ge g A.heap.size with hl | hl
 ·exact (h.block g hl).trans e
 ·rw [Array.getElem?_eq_none hl] at e; cases e⟩
theorem KpB.step {n₀ g : Nat} {A B C : World} (h : KpB n₀ g A B) (hn : n₀ ≤ A.heap.size) (k : Below B.heap.size B C) : KpB n₀ g A C := h.trans (KpB.of k (Nat.le_trans hn h.below.size))
theorem KpB.cell {n₀ g : Nat} {A B : World} (h : KpB n₀ g A B) {i : Nat} {v : Value} (hc : A.cell? ⟨g, i, none⟩ = some v) : B.cell? ⟨g, i, none⟩ = some v := by
 obtain ⟨o, ho, hi⟩ := cells_of_cell hc
 have e := h.same o hi ho
 unfold World.cell? at hc ⊢
 simp only at hc ⊢
 rw [e, ← ho]
 exact hc
theorem KpB.putObj {n₀ g : Nat} {w : World} (hn : n₀ ≤ w.heap.size) (W : World) (l : Nat) (o o' : Obj) (hl : w.heap.size ≤ l) (h : W.heap[l]? = some o) (hc : o.isCells = false) (hw : o.isWalk = false) : KpB n₀ g W (W.putObj l o') := ⟨belowK_b hn W l o o' hl h hc hw, fun o1 h1 e1 => by
 have hne : l ≠ g := by
  rintro rfl
  rw [h] at e1
  cases e1
  rw [hc] at h1; cases h1
 exact ((grownBy_putObj' W l o').block g (Array.getElem?_eq_some_iff.1 e1).1 (by simpa using fun e => hne e.symm)).trans e1⟩
theorem new_box (w : World) (cs : Array Value) (t : TypeId) : ∃ w1 g, w.alloc (.cells cs t (0, 0)) = w1 ∧ w.heap.size = g ∧ Hid (Blk w1 g cs t) ∧ Hid (Below w.heap.size w w1) ∧ Hid (∀ (a : Addr) (v : Value), w.cell? a = some v → a.block ≠ g) :=
 ⟨_, _, rfl, rfl, lH_ (Blk.new w cs t rfl), lH_ (balloc (Below.refl _ _) _), lH_ (fun a v h => by have := World.block_lt_of_cell? w a h; omega)⟩
section
variable {F : Fence} {nF : Nat} {P : Program} {ops : Array Oper} {rest : List Oper} {o : Oper} {a : Act} {Q : Exit → Act → World → Prop} {α : Type}
theorem append_cells_in {w0 W : World} (base : Nat) (hgd : o.guard = none) (s x : Operand) (t e : TypeId) (z : Value) (size bytes : Nat)
  (ho : o.op = .call { callee := .builtin .append, args := #[s, x], argTypes := #[t, t] })
  (ht : P.underlying t = some (.slice e)) (hinfo : (P.info? e).map (fun i => (i.zero, i.size, i.bytes)) = some (some z, size, bytes)) (hz : z.cells.size = size) (hs0 : 0 < size) (hb0 : 0 < bytes)
  (v : Value) (n : Nat) (xs ys : List Value) (hs : a.eval s = v) (hx : a.eval x = .slice (some ⟨W.heap.size, 0, none⟩) 1 1) (hys : ys.length = size) (h1 : ∀ u ∈ ys, u.oneCell' = true)
  (HO : W.ownsRow base e size v n xs) (HB : Below base w0 W) (hbase : base ≤ W.heap.size) (hl : (n + 1) * bytes ≤ 140737488355328)
  (h : ∀ v1 w1, w1.ownsRow base e size v1 (n + 1) (xs ++ ys) → Below base w0 w1 → W.grownBy w1 v.ownBlock → (v1.ownBlock = v.ownBlock ∨ ∃ b, v1.ownBlock = some b ∧ W.heap.size ≤ b) → wpListIn F nF P ops Q rest (a.put o.dst v1) w1) :
  wpListIn F nF P ops Q (o :: rest) a (W.alloc (.cells ys.toArray e)) := by
 obtain ⟨i0, hi, hzz⟩ := Option.map_eq_some_iff.1 hinfo
 simp only [Prod.mk.injEq] at hzz
 obtain ⟨hz0, hz1, hz2⟩ := hzz
 have hlen : n + 1 ≤ 140737488355328 := Nat.le_trans (Nat.le_mul_of_pos_right _ hb0) hl
 refine wpListIn_append_own_at (W.alloc (.cells ys.toArray e)) hgd s x t ho base e i0 z size bytes ht hi hz0 hz1 hz2 hz hs0 v n xs hs (HO.alloc _) ⟨W.heap.size, 0, none⟩ 1 1 ys hx (by rw [hys]; simp)
  (by simpa using World.news_of_block (cs := ys.toArray) (t := e) (fr := (0, 0)) (heap_alloc_new W (.cells ys.toArray e))) h1 (by simp only [maxLen]; omega) hl (by simp; omega) ?_
 intro v1 w1 hown hg _ hat
 refine h v1 w1 hown ((HB.alloc hbase _).grown hg (by simp; omega) (own_base HO)) (World.grownBy.trans (World.grownBy_alloc W _ _) hg) ?_
 rcases hat with hat | hat
 ·exact .inl hat
 ·exact .inr ⟨_, hat, by simp⟩
theorem R_append_in (d : Kd α) {w0 W : World} (base : Nat) (hgd : o.guard = none) (s x : Operand) (t e : TypeId) (z : Value) (bytes : Nat)
  (ho : o.op = .call { callee := .builtin .append, args := #[s, x], argTypes := #[t, t] })
  (ht : P.underlying t = some (.slice e)) (hinfo : (P.info? e).map (fun i => (i.zero, i.size, i.bytes)) = some (some z, d.sz, bytes)) (hz : z.cells.size = d.sz) (hs0 : 0 < d.sz) (hb0 : 0 < bytes)
  (v : Value) (xs : List α) (p : α) (cs : List Value) (ok okp : Nat → Prop) (hs : a.eval s = v) (hx : a.eval x = .slice (some ⟨W.heap.size, 0, none⟩) 1 1) (hp : d.M W base okp p cs) (hokp : ∀ k, okp k → ok k ∧ some k ≠ v.ownBlock) (hfresh : ∀ k, W.heap.size ≤ k → ok k)
  (HO : d.R e W base ok v xs) (HB : Below base w0 W) (hbase : base ≤ W.heap.size) (hl : (xs.length + 1) * bytes ≤ 140737488355328)
  (h : ∀ v1 w1, d.R e w1 base ok v1 (xs ++ [p]) → Below base w0 w1 → W.grownBy w1 v.ownBlock → (v1.ownBlock = v.ownBlock ∨ ∃ b, v1.ownBlock = some b ∧ W.heap.size ≤ b) → wpListIn F nF P ops Q rest (a.put o.dst v1) w1) :
  wpListIn F nF P ops Q (o :: rest) a (W.alloc (.cells cs.toArray e)) := by
 obtain ⟨h0, inner, hown, hr⟩ := HO
 refine append_cells_in base hgd s x t e z d.sz bytes ho ht hinfo hz hs0 hb0 v xs.length inner cs hs hx (d.K_len (d.K_of_M hp)) (d.K_one (d.K_of_M hp)) hown HB hbase hl ?_
 intro v1 w1 hown1 hb1 hg1 hat1
 exact h v1 w1 (Kd.R_appended h0 hr hp hokp hfresh hown1 hg1 hat1) hb1 hg1 hat1
end
section
variable {P : Program} {ops : Array Oper} {o : Oper} {a : Act} {Q : Exit → Act → World → Prop} {K : Act → World → Prop} {α : Type}
end
theorem loop_acts {P : Program} {Q : Exit → Act → World → Prop} {a : Act} {w : World} {c : Code} (I : Act → World → Prop) (μ : Act → World → Nat) (h₀ : I a w)
  (round : ∀ (K : Act → World → Prop) (a : Act) (w : World), I a w → (∀ a' w', I a' w' → μ a' w' < μ a w → K a' w') → c.wp P (Exit.then K Q) a w) : (Code.loop c).wp P Q a w :=
 wp_loop I μ h₀ (fun a w h => round _ a w h (fun _ _ h1 h2 => ⟨h1, h2⟩))
def mark (D : Nat) : Deferred := { target := .collected D, args := #[] }
def Marks (B : Nat) (w : World) (Ds : List Nat) : Prop := Ds.Nodup ∧ ∀ D ∈ Ds, B ≤ D ∧ w.heap[D]? = some (.deferred (some []))
theorem Marks.nil (B : Nat) (w : World) : Marks B w [] := ⟨List.nodup_nil, fun _ h => by cases h⟩
theorem Marks.cons {B : Nat} {w : World} {Ds : List Nat} {D : Nat} (h : Marks B w Ds) (hB : B ≤ D) (hD : w.heap[D]? = some (.deferred (some []))) (hn : D ∉ Ds) : Marks B w (D :: Ds) :=
 ⟨List.nodup_cons.2 ⟨hn, h.1⟩, fun E hE => by
  rcases List.mem_cons.1 hE with rfl | hE
  ·exact ⟨hB, hD⟩
  ·exact h.2 E hE⟩
theorem Marks.kept {B : Nat} {w w' : World} {Ds : List Nat} (h : Marks B w Ds) (hk : ∀ D ∈ Ds, D < w.heap.size → w'.heap[D]? = w.heap[D]?) : Marks B w' Ds :=
 ⟨h.1, fun D hD => ⟨(h.2 D hD).1, (hk D hD (Array.getElem?_eq_some_iff.1 (h.2 D hD).2).1).trans (h.2 D hD).2⟩⟩
theorem Marks.below {B : Nat} {w w' : World} {Ds : List Nat} (h : Marks B w Ds) (hb : Below w.heap.size w w') : Marks B w' Ds := h.kept fun D _ hl => hb.block D hl
theorem Marks.setCell {B : Nat} {w : World} {Ds : List Nat} (h : Marks B w Ds) (p : Addr) (v : Value) (hp : ∃ o : Obj, w.heap[p.block]? = some o ∧ o.isCells = true) : Marks B (w.setCell p v) Ds := by
 refine h.kept fun D hD hl => Below.heap_setCell w p v D ?_
 rintro rfl
 obtain ⟨o, ho, hc⟩ := hp
 rw [(h.2 _ hD).2] at ho
 cases ho; cases hc
theorem Marks.lt {B : Nat} {w : World} {Ds : List Nat} (h : Marks B w Ds) {D : Nat} (hD : D ∈ Ds) : D < w.heap.size := (Array.getElem?_eq_some_iff.1 (h.2 D hD).2).1
theorem leaves_marks {F : Fence} {n : Nat} {P : Program} {fn : Func} {tmps : Array Value} {R : Ending → World → Prop} {B : Nat} (Ds : List Nat) : ∀ (w : World), Marks B w Ds →
  (∀ w', Below B w w' → (∀ i, i ∉ Ds → w'.heap[i]? = w.heap[i]?) → ∃ v, (results fn tmps).run P w' = .ok v w' ∧ R (.returned v) w') →
  LeavesInM F n P fn tmps R (Ds.map mark) .returning w := by
 induction Ds with
 | nil =>
  intro w h k
  exact k w (Below.refl _ _) (fun _ _ => rfl)
 | cons D Ds ih =>
  intro w h k
  obtain ⟨hB, hD⟩ := h.2 D List.mem_cons_self
  have hn := (List.nodup_cons.1 h.1).1
  have hlt := (Array.getElem?_eq_some_iff.1 hD).1
  refine ⟨by simp, .inl ⟨D, _, rfl, run_takeDeferred hD, ih _ ?_ ?_⟩⟩
  ·refine ⟨(List.nodup_cons.1 h.1).2, fun E hE => ⟨(h.2 E (List.mem_cons_of_mem _ hE)).1, ?_⟩⟩
   rw [World.putObj_heap_other (by rintro rfl; exact hn hE)]
   exact (h.2 E (List.mem_cons_of_mem _ hE)).2
  ·intro w' hb hs
   refine k w' (Below.trans ?_ hb) (fun i hi => ?_)
   ·exact ⟨rfl, rfl, rfl, by simp, fun i hi => World.putObj_heap_other (by omega)⟩
   ·rw [hs i (fun h' => hi (List.mem_cons_of_mem _ h')), World.putObj_heap_other (by rintro rfl; exact hi List.mem_cons_self)]
/- The kinds of this program's data: points, anchors, moves, tents, regions, deltas; a view of what lies in an elder world. -/
def view {α : Type} (w0 : World) (d : Kd α) : Kd α where
 sz := d.sz
 E := []
 K := fun _ x cs => d.K w0 x cs
 M := fun _ _ _ x cs => d.K w0 x cs
 K_len := d.K_len
 K_one := d.K_one
 K_below := fun _ h => h
 K_of_M := fun h => h
 M_mono := fun _ h => h
 M_bound := fun h => h
 M_move := fun _ h => h
 M_lower := fun _ h => h
structure I2 where
 a : Int
 b : Int
structure I3 where
 a : Int
 b : Int
 c : Int
structure Pt where
 a : Int
 b : Int
 c : Bool
deriving instance DecidableEq for I2, I3, Pt
def zI2 : I2 := ⟨0, 0⟩
def zI3 : I3 := ⟨0, 0, 0⟩
def zPt : Pt := ⟨0, 0, false⟩
def kI : Kd Int := Kd.int .i64
def kI2 : Kd I2 := Kd.iso (Kd.pair (Kd.int .i64) (Kd.int .i64)) (fun x : I2 => (x.a, x.b))
def kI3 : Kd I3 := Kd.iso (Kd.pair (Kd.int .i64) (Kd.pair (Kd.int .i64) (Kd.int .i64))) (fun x : I3 => (x.a, x.b, x.c))
def kPt : Kd Pt := Kd.iso (Kd.pair (Kd.int .i64) (Kd.pair (Kd.int .i64) Kd.bool)) (fun x : Pt => (x.a, x.b, x.c))
theorem kI2_open {w : World} {x : I2} {cs : List Value} (h : kI2.K w x cs) : cs = [.int .i64 x.a, .int .i64 x.b] := by
 obtain ⟨_, _, rfl, rfl, rfl⟩ := h
 rfl
theorem kI2_mk (w : World) (x : I2) : kI2.K w x [.int .i64 x.a, .int .i64 x.b] := ⟨[.int .i64 x.a], [.int .i64 x.b], rfl, rfl, rfl⟩
theorem kI2_mkM (w : World) (base : Nat) (ok : Nat → Prop) (x : I2) : kI2.M w base ok x [.int .i64 x.a, .int .i64 x.b] := ⟨[.int .i64 x.a], [.int .i64 x.b], rfl, rfl, rfl⟩
theorem kI3_open {w : World} {x : I3} {cs : List Value} (h : kI3.K w x cs) : cs = [.int .i64 x.a, .int .i64 x.b, .int .i64 x.c] := by
 obtain ⟨_, _, rfl, rfl, ⟨_, _, rfl, rfl, rfl⟩⟩ := h
 rfl
theorem kI3_mk (w : World) (x : I3) : kI3.K w x [.int .i64 x.a, .int .i64 x.b, .int .i64 x.c] := ⟨[.int .i64 x.a], [.int .i64 x.b, .int .i64 x.c], rfl, rfl, ⟨[.int .i64 x.b], [.int .i64 x.c], rfl, rfl, rfl⟩⟩
theorem kI3_mkM (w : World) (base : Nat) (ok : Nat → Prop) (x : I3) : kI3.M w base ok x [.int .i64 x.a, .int .i64 x.b, .int .i64 x.c] := ⟨[.int .i64 x.a], [.int .i64 x.b, .int .i64 x.c], rfl, rfl, ⟨[.int .i64 x.b], [.int .i64 x.c], rfl, rfl, rfl⟩⟩
theorem kPt_open {w : World} {x : Pt} {cs : List Value} (h : kPt.K w x cs) : cs = [.int .i64 x.a, .int .i64 x.b, .bool x.c] := by
 obtain ⟨_, _, rfl, rfl, ⟨_, _, rfl, rfl, rfl⟩⟩ := h
 rfl
theorem kPt_mk (w : World) (x : Pt) : kPt.K w x [.int .i64 x.a, .int .i64 x.b, .bool x.c] := ⟨[.int .i64 x.a], [.int .i64 x.b, .bool x.c], rfl, rfl, ⟨[.int .i64 x.b], [.bool x.c], rfl, rfl, rfl⟩⟩
theorem kPt_mkM (w : World) (base : Nat) (ok : Nat → Prop) (x : Pt) : kPt.M w base ok x [.int .i64 x.a, .int .i64 x.b, .bool x.c] := ⟨[.int .i64 x.a], [.int .i64 x.b, .bool x.c], rfl, rfl, ⟨[.int .i64 x.b], [.bool x.c], rfl, rfl, rfl⟩⟩
structure Dl where
 region : Int
 adv : Int
 moves : List I2
deriving instance DecidableEq for Dl
def zDl : Dl := ⟨0, 0, []⟩
def kDl : Kd Dl := Kd.iso (Kd.pair (Kd.int .i64) (Kd.pair (Kd.int .i64) (Kd.slice 62 kI2))) (fun x : Dl => (x.region, x.adv, x.moves))
theorem kDl_open {w : World} {x : Dl} {cs : List Value} (h : kDl.K w x cs) : ∃ A c, cs = [.int .i64 x.region, .int .i64 x.adv, .slice A x.moves.length c] ∧ x.moves.length ≤ c ∧ Kd.C kI2 w A x.moves.length x.moves := by
 obtain ⟨_, _, rfl, rfl, ⟨_, _, rfl, rfl, ⟨A, c, rfl, h1, h2⟩⟩⟩ := h
 exact ⟨A, c, rfl, h1, h2⟩
theorem kDl_mk {w : World} {x : Dl} {A : Option Addr} {c : Nat} (h1 : x.moves.length ≤ c) (h2 : Kd.C kI2 w A x.moves.length x.moves) : kDl.K w x [.int .i64 x.region, .int .i64 x.adv, .slice A x.moves.length c] :=
 ⟨[.int .i64 x.region], [.int .i64 x.adv, .slice A x.moves.length c], rfl, rfl, ⟨[.int .i64 x.adv], [.slice A x.moves.length c], rfl, rfl, ⟨A, c, rfl, h1, h2⟩⟩⟩
def kCt : Kd (List Pt) := Kd.slice 73 kPt
def kRg : Kd (List I3) := Kd.slice 92 kI3
theorem kSl_open {α : Type} {d : Kd α} {e : Nat} {w : World} {x : List α} {cs : List Value} (h : (Kd.slice e d).K w x cs) : ∃ A c, cs = [.slice A x.length c] ∧ x.length ≤ c ∧ Kd.C d w A x.length x := h
theorem infoPt : (Try.prog.info? 73).map (fun i => (i.zero, i.size, i.bytes)) = some (some (.agg #[.int .i64 0, .int .i64 0, .bool false]), 3, 24) := by kernel_rfl
theorem infoAn : (Try.prog.info? 25).map (fun i => (i.zero, i.size, i.bytes)) = some (some (.agg #[.int .i64 0, .int .i64 0, .int .i64 0]), 3, 24) := by kernel_rfl
theorem infoTent : (Try.prog.info? 92).map (fun i => (i.zero, i.size, i.bytes)) = some (some (.agg #[.int .i64 0, .int .i64 0, .int .i64 0]), 3, 24) := by kernel_rfl
theorem infoMv : (Try.prog.info? 62).map (fun i => (i.zero, i.size, i.bytes)) = some (some (.agg #[.int .i64 0, .int .i64 0]), 2, 16) := by kernel_rfl
theorem infoSc : (Try.prog.info? 48).map (fun i => (i.zero, i.size, i.bytes)) = some (some (.agg #[.int .i64 0, .int .i64 0]), 2, 16) := by kernel_rfl
theorem infoDl : (Try.prog.info? 59).map (fun i => (i.zero, i.size, i.bytes)) = some (some (.agg #[.int .i64 0, .int .i64 0, .slice none 0 0]), 3, 40) := by kernel_rfl
theorem infoInt : (Try.prog.info? 3).map (fun i => (i.zero, i.size, i.bytes)) = some (some (.int .i64 0), 1, 8) := by kernel_rfl
theorem infoCt : (Try.prog.info? 71).map (fun i => (i.zero, i.size, i.bytes)) = some (some (.slice none 0 0), 1, 24) := by kernel_rfl
theorem infoRg : (Try.prog.info? 46).map (fun i => (i.zero, i.size, i.bytes)) = some (some (.agg #[.slice none 0 0]), 1, 24) := by kernel_rfl
theorem el_cells {α : Type} {d : Kd α} {w : World} {A : Option Addr} {xs : List α} (h : Kd.C d w A xs.length xs) (z : α) (k : Nat) (hk : k < xs.length) :
  ∃ ad cs, A = some ad ∧ cs.length = d.sz ∧ d.K w (xs.getD k z) cs ∧ ∀ j u, cs[j]? = some u → w.cell? (ad.add (k * d.sz + j)) = some u := by
 obtain ⟨ad, cs, h1, h2, h3, h4⟩ := Kd.C_get h z (k : Int) (by omega) (by omega)
 rw [Int.toNat_natCast] at h3 h4
 exact ⟨ad, cs, h1, h2, h3, h4⟩
theorem el1 {α : Type} {d : Kd α} {w : World} {A : Option Addr} {xs : List α} (hs : d.sz = 1) (h : Kd.C d w A xs.length xs) (z : α) (k : Nat) (hk : k < xs.length) :
  ∃ ad c0, A = some ad ∧ d.K w (xs.getD k z) [c0] ∧ w.cell? (ad.add k) = some c0 := by
 obtain ⟨ad, cs, h1, h2, h3, h4⟩ := el_cells h z k hk
 rw [hs] at h2 h4
 match cs, h2 with
 | [c0], _ => exact ⟨ad, c0, h1, h3, by have := h4 0 c0 rfl; simpa using this⟩
theorem el2 {α : Type} {d : Kd α} {w : World} {A : Option Addr} {xs : List α} (hs : d.sz = 2) (h : Kd.C d w A xs.length xs) (z : α) (k : Nat) (hk : k < xs.length) :
  ∃ ad c0 c1, A = some ad ∧ d.K w (xs.getD k z) [c0, c1] ∧ w.cell? (ad.add (k * 2)) = some c0 ∧ w.cell? ⟨(ad.add (k * 2)).block, (ad.add (k * 2)).off + 1, none⟩ = some c1 := by
 obtain ⟨ad, cs, h1, h2, h3, h4⟩ := el_cells h z k hk
 rw [hs] at h2 h4
 match cs, h2 with
 | [c0, c1], _ => exact ⟨ad, c0, c1, h1, h3, h4 0 c0 rfl, by rw [← add_field ad (k * 2) 1 (by omega)]; exact h4 1 c1 rfl⟩
theorem el3 {α : Type} {d : Kd α} {w : World} {A : Option Addr} {xs : List α} (hs : d.sz = 3) (h : Kd.C d w A xs.length xs) (z : α) (k : Nat) (hk : k < xs.length) :
  ∃ ad c0 c1 c2, A = some ad ∧ d.K w (xs.getD k z) [c0, c1, c2] ∧ w.cell? (ad.add (k * 3)) = some c0 ∧ w.cell? ⟨(ad.add (k * 3)).block, (ad.add (k * 3)).off + 1, none⟩ = some c1 ∧ w.cell? ⟨(ad.add (k * 3)).block, (ad.add (k * 3)).off + 2, none⟩ = some c2 := by
 obtain ⟨ad, cs, h1, h2, h3, h4⟩ := el_cells h z k hk
 rw [hs] at h2 h4
 match cs, h2 with
 | [c0, c1, c2], _ => exact ⟨ad, c0, c1, c2, h1, h3, h4 0 c0 rfl, by rw [← add_field ad (k * 3) 1 (by omega)]; exact h4 1 c1 rfl, by rw [← add_field ad (k * 3) 2 (by omega)]; exact h4 2 c2 rfl⟩
theorem getD_at {α : Type} {l : List α} {k : Nat} (h : k < l.length) (z : α) : l.getD k z ∈ l := by
 rw [List.getD_eq_getElem?_getD, List.getElem?_eq_getElem h]
 exact List.getElem_mem h
theorem take_at {α : Type} (l : List α) (k : Nat) (h : k < l.length) (z : α) : l.take (k + 1) = l.take k ++ [l.getD k z] := by
 rw [List.take_succ_eq_append_getElem h, List.getD_eq_getElem?_getD, List.getElem?_eq_getElem h]; rfl
theorem append_kd {α : Type} {d : Kd α} {w0 w : World} {base : Nat} {v : Value} {xs : List α} (t e : TypeId) (z : Value) (bytes : Nat) (ht : Try.prog.underlying t = some (.slice e)) (hinfo : (Try.prog.info? e).map (fun i => (i.zero, i.size, i.bytes)) = some (some z, d.sz, bytes)) (hz : z.cells.size = d.sz) (hs0 : 0 < d.sz) (hb0 : 0 < bytes)
  (hR : d.R e w base (fun _ => True) v xs) (hB : Below base w0 w) (hbase : base ≤ w.heap.size) (g : Nat) (p : α) (cs : List Value) (hblk : Blk w g cs.toArray e) (hp : d.M w base (fun _ => False) p cs) (hl : (xs.length + 1) * bytes ≤ 140737488355328) :
  ∃ v' w', (Builtin.append_ #[t, t] t #[v, .slice (some ⟨g, 0, none⟩) 1 1]).run Try.prog w = .ok v' w' ∧ d.R e w' base (fun _ => True) v' (xs ++ [p]) ∧ Below base w0 w' ∧ w.grownBy w' v.ownBlock := by
 obtain ⟨h0, inner, hown, hr⟩ := hR
 obtain ⟨i0, hi, hzz⟩ := Option.map_eq_some_iff.1 hinfo
 simp only [Prod.mk.injEq] at hzz
 obtain ⟨hz0, hz1, hz2⟩ := hzz
 have hlen : xs.length + 1 ≤ 140737488355328 := Nat.le_trans (Nat.le_mul_of_pos_right _ hb0) hl
 obtain ⟨v1, w1, hrun, ho, hg, _, hat⟩ := run_append_own_at (P := Try.prog) w base t t e i0 z d.sz bytes ht hi hz0 hz1 hz2 hz hs0 v xs.length inner hown ⟨g, 0, none⟩ 1 1 cs (by rw [Nat.one_mul]; exact d.K_len (d.K_of_M hp)) (by
  intro j u hu
  have hb := hblk.cell j
  rw [add_plain, hb]
  simpa using hu) (d.K_one (d.K_of_M hp)) (by simp only [maxLen]; omega) hl hbase
 exact ⟨v1, w1, hrun, Kd.R_appended (okp := fun _ => False) h0 hr hp (fun _ h => h.elim) (fun _ _ => trivial) ho hg (hat.imp_right fun h => ⟨_, h, Nat.le_refl _⟩), hB.grown hg hbase (own_base hown), hg⟩
theorem run_append_opU {P : Program} {a : Act} {oi : Oper} {t : TypeId} {x v : Nat} {p y u : Value} {w w1 : World} (ho : oi.op = .call { callee := .builtin .append, args := #[.tmp x, .tmp v], argTypes := #[t, t] }) (e1 : a.tmps[x]? = some p) (e2 : a.tmps[v]? = some y) (h : (Builtin.append_ #[t, t] oi.type #[p, y]).run P w = .ok u w1) : (execOp a.eval oi).run P w = .ok (.value u) w1 := by
 unfold execOp
 simp only [ho, resolve, invoke, builtin, Sem.run_bind, Sem.run_pure, Result.andThen_ok, List.map_toArray, List.map_cons, List.map_nil, eval_of e1, eval_of e2, h]
structure KpG (n0 : Nat) (G : Nat → Prop) (W W' : World) : Prop where
 below : Below n0 W W'
 same : ∀ g, G g → ∀ o : Obj, o.isCells = true → W.heap[g]? = some o → W'.heap[g]? = some o
theorem KpG.refl (n0 : Nat) (G : Nat → Prop) (W : World) : KpG n0 G W W := ⟨Below.refl _ _, fun _ _ _ _ h => h⟩
theorem KpG.trans {n0 : Nat} {G : Nat → Prop} {A B C : World} (h : KpG n0 G A B) (k : KpG n0 G B C) : KpG n0 G A C := ⟨h.below.trans k.below, fun g hg o ho e => k.same g hg o ho (h.same g hg o ho e)⟩
theorem KpG.of {n0 : Nat} {G : Nat → Prop} {A B : World} (h : Below A.heap.size A B) (hn : n0 ≤ A.heap.size) : KpG n0 G A B := ⟨h.mono hn, fun g _ o _ e => by
 rcases Nat.lt_or_ge g A.heap.size with hl | hl
 ·exact (h.block g hl).trans e
 ·rw [Array.getElem?_eq_none hl] at e; cases e⟩
theorem KpG.step {n0 : Nat} {G : Nat → Prop} {A B C : World} (h : KpG n0 G A B) (hn : n0 ≤ A.heap.size) (k : Below B.heap.size B C) : KpG n0 G A C := h.trans (KpG.of k (Nat.le_trans hn h.below.size))
theorem KpG.cell {n0 : Nat} {G : Nat → Prop} {A B : World} (h : KpG n0 G A B) {g : Nat} (hg : G g) {i : Nat} {v : Value} (hc : A.cell? ⟨g, i, none⟩ = some v) : B.cell? ⟨g, i, none⟩ = some v := by
 obtain ⟨o, ho, hi⟩ := cells_of_cell hc
 have e := h.same g hg o hi ho
 unfold World.cell? at hc ⊢
 simp only at hc ⊢
 rw [e, ← ho]
 exact hc
theorem KpG.putObj {n0 : Nat} {G : Nat → Prop} {w : World} (hn : n0 ≤ w.heap.size) (W : World) (l : Nat) (o o' : Obj) (hl : w.heap.size ≤ l) (h : W.heap[l]? = some o) (hc : o.isCells = false) (hw : o.isWalk = false) : KpG n0 G W (W.putObj l o') := ⟨belowK_b hn W l o o' hl h hc hw, fun g _ o1 h1 e1 => by
 have hne : l ≠ g := by
  rintro rfl
  rw [h] at e1
  cases e1
  rw [hc] at h1; cases h1
 exact ((grownBy_putObj' W l o').block g (Array.getElem?_eq_some_iff.1 e1).1 (by simpa using fun e => hne e.symm)).trans e1⟩
/- Contracts of slices.IndexFunc and slices.ContainsFunc with the closures that this program hands in. -/
def ixOf {α : Type} (p : α → Bool) : List α → Int
 | [] => -1
 | x :: xs => if p x then 0 else if ixOf p xs < 0 then -1 else ixOf p xs + 1
theorem ixOf_ge {α : Type} (p : α → Bool) (xs : List α) : -1 ≤ ixOf p xs := by
 induction xs with
 | nil => exact Int.le_refl _
 | cons x xs ih => unfold ixOf; split; omega; split <;> omega
theorem ixOf_any {α : Type} (p : α → Bool) (xs : List α) : decide (0 ≤ ixOf p xs) = xs.any p := by
 induction xs with
 | nil => rfl
 | cons x xs ih =>
  have hg := ixOf_ge p xs
  rw [List.any_cons]
  unfold ixOf
  cases h : p x with
  | true => simp
  | false =>
   simp only [Bool.false_or, Bool.false_eq_true, if_false]
   rw [← ih]
   split
   ·rw [decide_eq_false (by omega), decide_eq_false (by omega)]
   ·rw [decide_eq_true (by omega), decide_eq_true (by omega)]
theorem ixOf_at {α : Type} (p : α → Bool) (xs : List α) (z : α) (k : Nat) (hk : k < xs.length) (h : ∀ j, j < k → p (xs.getD j z) = false) (hp : p (xs.getD k z) = true) : ixOf p xs = k := by
 induction xs generalizing k with
 | nil => simp at hk
 | cons x xs ih =>
  unfold ixOf
  cases k with
  | zero =>
   have : p x = true := hp
   rw [this]; rfl
  | succ k =>
   have h0 : p x = false := h 0 (by omega)
   have h1 := ih k (by simpa using hk) (fun j hj => by have := h (j + 1) (by omega); simpa using this) (by simpa using hp)
   rw [h0, h1]
   simp only [Bool.false_eq_true, if_false]
   rw [if_neg (by omega)]; omega
theorem ixOf_none {α : Type} (p : α → Bool) (xs : List α) (z : α) (h : ∀ j, j < xs.length → p (xs.getD j z) = false) : ixOf p xs = -1 := by
 induction xs with
 | nil => rfl
 | cons x xs ih =>
  unfold ixOf
  have h0 : p x = false := h 0 (by simp)
  have h1 := ih (fun j hj => by have := h (j + 1) (by simpa using hj); simpa using this)
  rw [h0, h1]; rfl
theorem ix_tent {α : Type} {d : Kd α} (z : α) (p : α → Bool) (xs : List α) (A : Option Addr) (c : Nat)  (w : World) (hs : d.sz = 3) (hC : Kd.C d w A xs.length xs)
  (hf : ∀ j, j < xs.length → ∀ c0 c1 c2 : Value, d.K w (xs.getD j z) [c0, c1, c2] → ∀ w1, Below w.heap.size w w1 → Calls Try.prog 69 #[.agg #[c0, c1, c2]] w1 fun e w2 => e = .returned (.bool (p (xs.getD j z))) ∧ Below w1.heap.size w1 w2) :
  Calls Try.prog 94 #[.slice A xs.length c, .func (.func 69) #[] #[]] w fun e w' => e = .returned (.int .i64 (ixOf p xs)) ∧ Below w.heap.size w w' := by
 have hm : xs.length ≤ 9223372036854775807 := hC.2.1
 have HC := lH_ hC
 have HF := lH_ hf
 have HSZ := lH_ hs
 clear hC hf hs
 go_enter Try.func94, Try.ntmps94
 go_wp2_with fail
 go_loopw [8] (fun v wr => ∃ k : Nat, k ≤ xs.length ∧ v = .int .i64 k ∧ Hid (∀ j, j < k → p (xs.getD j z) = false) ∧ Hid (Below w.heap.size w wr)) (fun v _ => xs.length - (intOf v).toNat)
 case atStart => exact ⟨0, Nat.zero_le _, rfl, lH_ (fun j hj => absurd hj (Nat.not_lt_zero _)), lH_ (Below.refl _ _)⟩
 case round =>
 obtain ⟨k, hk, rfl, HP, HB⟩ := hrel
 by_cases hlt : k < xs.length
 ·obtain ⟨ad, c0, c1, c2, rfl, hK, g0, g1, g2⟩ := el3 HSZ.out HC.out z k hlt
  replace g0 := pw_cell_below HB.out g0
  replace g1 := pw_cell_below HB.out g1
  replace g2 := pw_cell_below HB.out g2
  have HFK := lH_ (HF.out k hlt c0 c1 c2 hK wr HB.out)
  have hpx : p (xs.getD k z) = true ∨ p (xs.getD k z) = false := by cases p (xs.getD k z) <;> simp
  have hnext : p (xs.getD k z) = false → ∀ j, j < k + 1 → p (xs.getD j z) = false := by
   intro h j hj
   rcases Nat.lt_or_ge j k with h1 | h1
   ·exact HP.out j h1
   ·rw [show j = k by omega]; exact h
  have HE := lH_ (fun h => ixOf_at p xs z k hlt HP.out h)
  have HN := lH_ hnext
  generalize xs.getD k z = xk at *
  have hcap : (k : Int) < xs.length := by omega
  clear hnext HP hK
  rcases hpx with hpx | hpx
  all_goals
   have PX := lH_ hpx
   clear hpx
   go_wp2_with fail
   refine HFK.out.mono ?_
   rintro e w1 ⟨rfl, hb⟩
   have HB1 := lH_ (bthen' HB.out hb)
   clear hb
   rw [PX.out]
   go_wp2_with fail
  ·go_ret
   exact ⟨ret_int (HE.out PX.out).symm, HB1.out⟩
  ·go_roundw
   case rel => exact ⟨k + 1, by omega, by go_num, lH_ (HN.out PX.out), HB1⟩
   case measure => simp [intOf]; omega
 ·have hk2 : k = xs.length := by omega
  have HE := lH_ (ixOf_none p xs z (fun j hj => HP.out j (by omega)))
  clear HP HF
  go_wp2_with fail
  go_ret
  exact ⟨ret_int HE.out.symm, HB.out⟩
theorem any_tent {α : Type} {d : Kd α} (z : α) (p : α → Bool) (xs : List α) (A : Option Addr) (c : Nat)  (w : World) (hs : d.sz = 3) (hC : Kd.C d w A xs.length xs)
  (hf : ∀ j, j < xs.length → ∀ c0 c1 c2 : Value, d.K w (xs.getD j z) [c0, c1, c2] → ∀ w1, Below w.heap.size w w1 → Calls Try.prog 69 #[.agg #[c0, c1, c2]] w1 fun e w2 => e = .returned (.bool (p (xs.getD j z))) ∧ Below w1.heap.size w1 w2) :
  Calls Try.prog 71 #[.slice A xs.length c, .func (.func 69) #[] #[]] w fun e w' => e = .returned (.bool (xs.any p)) ∧ Below w.heap.size w w' := by
 have hC' := lH_ (ix_tent z p xs A c  w hs hC hf)
 have hix := ixOf_any p xs
 have hix' : xs.any p = true ∨ xs.any p = false := by cases xs.any p <;> simp
 clear hC hf hs
 rcases hix' with hix' | hix'
 all_goals
  rw [hix'] at hix
  have hd : decide (0 ≤ ixOf p xs) = _ := hix
  have HX := lH_ hix'
  rw [hix']
  clear hix hix'
  go_enter Try.func71, Try.ntmps71
  go_wp2_with fail
  refine hC'.out.mono ?_
  rintro e w1 ⟨rfl, hb⟩
  go_wp2_with fail
  go_ret
  exact ⟨rfl, hb⟩
theorem ix_coord {α : Type} {d : Kd α} (z : α) (p : α → Bool) (xs : List α) (A : Option Addr) (c : Nat)  (w : World) (hs : d.sz = 1) (hC : Kd.C d w A xs.length xs)
  (hf : ∀ j, j < xs.length → ∀ c0 : Value, d.K w (xs.getD j z) [c0] → ∀ w1, Below w.heap.size w w1 → Calls Try.prog 73 #[c0] w1 fun e w2 => e = .returned (.bool (p (xs.getD j z))) ∧ Below w1.heap.size w1 w2) :
  Calls Try.prog 95 #[.slice A xs.length c, .func (.func 73) #[] #[]] w fun e w' => e = .returned (.int .i64 (ixOf p xs)) ∧ Below w.heap.size w w' := by
 have hm : xs.length ≤ 9223372036854775807 := hC.2.1
 have HC := lH_ hC
 have HF := lH_ hf
 have HSZ := lH_ hs
 clear hC hf hs
 go_enter Try.func95, Try.ntmps95
 go_wp2_with fail
 go_loopw [8] (fun v wr => ∃ k : Nat, k ≤ xs.length ∧ v = .int .i64 k ∧ Hid (∀ j, j < k → p (xs.getD j z) = false) ∧ Hid (Below w.heap.size w wr)) (fun v _ => xs.length - (intOf v).toNat)
 case atStart => exact ⟨0, Nat.zero_le _, rfl, lH_ (fun j hj => absurd hj (Nat.not_lt_zero _)), lH_ (Below.refl _ _)⟩
 case round =>
 obtain ⟨k, hk, rfl, HP, HB⟩ := hrel
 by_cases hlt : k < xs.length
 ·obtain ⟨ad, c0, rfl, hK, g0⟩ := el1 HSZ.out HC.out z k hlt
  replace g0 := pw_cell_below HB.out g0
  have HFK := lH_ (HF.out k hlt c0 hK wr HB.out)
  have hpx : p (xs.getD k z) = true ∨ p (xs.getD k z) = false := by cases p (xs.getD k z) <;> simp
  have hnext : p (xs.getD k z) = false → ∀ j, j < k + 1 → p (xs.getD j z) = false := by
   intro h j hj
   rcases Nat.lt_or_ge j k with h1 | h1
   ·exact HP.out j h1
   ·rw [show j = k by omega]; exact h
  have HE := lH_ (fun h => ixOf_at p xs z k hlt HP.out h)
  have HN := lH_ hnext
  generalize xs.getD k z = xk at *
  have hcap : (k : Int) < xs.length := by omega
  clear hnext HP hK
  rcases hpx with hpx | hpx
  all_goals
   have PX := lH_ hpx
   clear hpx
   go_wp2_with fail
   refine HFK.out.mono ?_
   rintro e w1 ⟨rfl, hb⟩
   have HB1 := lH_ (bthen' HB.out hb)
   clear hb
   rw [PX.out]
   go_wp2_with fail
  ·go_ret
   exact ⟨ret_int (HE.out PX.out).symm, HB1.out⟩
  ·go_roundw
   case rel => exact ⟨k + 1, by omega, by go_num, lH_ (HN.out PX.out), HB1⟩
   case measure => simp [intOf]; omega
 ·have hk2 : k = xs.length := by omega
  have HE := lH_ (ixOf_none p xs z (fun j hj => HP.out j (by omega)))
  clear HP HF
  go_wp2_with fail
  go_ret
  exact ⟨ret_int HE.out.symm, HB.out⟩
theorem any_coord {α : Type} {d : Kd α} (z : α) (p : α → Bool) (xs : List α) (A : Option Addr) (c : Nat)  (w : World) (hs : d.sz = 1) (hC : Kd.C d w A xs.length xs)
  (hf : ∀ j, j < xs.length → ∀ c0 : Value, d.K w (xs.getD j z) [c0] → ∀ w1, Below w.heap.size w w1 → Calls Try.prog 73 #[c0] w1 fun e w2 => e = .returned (.bool (p (xs.getD j z))) ∧ Below w1.heap.size w1 w2) :
  Calls Try.prog 72 #[.slice A xs.length c, .func (.func 73) #[] #[]] w fun e w' => e = .returned (.bool (xs.any p)) ∧ Below w.heap.size w w' := by
 have hC' := lH_ (ix_coord z p xs A c  w hs hC hf)
 have hix := ixOf_any p xs
 have hix' : xs.any p = true ∨ xs.any p = false := by cases xs.any p <;> simp
 clear hC hf hs
 rcases hix' with hix' | hix'
 all_goals
  rw [hix'] at hix
  have hd : decide (0 ≤ ixOf p xs) = _ := hix
  have HX := lH_ hix'
  rw [hix']
  clear hix hix'
  go_enter Try.func72, Try.ntmps72
  go_wp2_with fail
  refine hC'.out.mono ?_
  rintro e w1 ⟨rfl, hb⟩
  go_wp2_with fail
  go_ret
  exact ⟨rfl, hb⟩
theorem ix_within {α : Type} {d : Kd α} (z : α) (p : α → Bool) (xs : List α) (A : Option Addr) (c : Nat) (cp0 : Value) (w : World) (hs : d.sz = 1) (hC : Kd.C d w A xs.length xs)
  (hf : ∀ j, j < xs.length → ∀ c0 : Value, d.K w (xs.getD j z) [c0] → ∀ w1, Below w.heap.size w w1 → Calls Try.prog 78 #[c0, cp0] w1 fun e w2 => e = .returned (.bool (p (xs.getD j z))) ∧ Below w1.heap.size w1 w2) :
  Calls Try.prog 95 #[.slice A xs.length c, .func (.func 78) #[] #[cp0]] w fun e w' => e = .returned (.int .i64 (ixOf p xs)) ∧ Below w.heap.size w w' := by
 have hm : xs.length ≤ 9223372036854775807 := hC.2.1
 have HC := lH_ hC
 have HF := lH_ hf
 have HSZ := lH_ hs
 clear hC hf hs
 go_enter Try.func95, Try.ntmps95
 go_wp2_with fail
 go_loopw [8] (fun v wr => ∃ k : Nat, k ≤ xs.length ∧ v = .int .i64 k ∧ Hid (∀ j, j < k → p (xs.getD j z) = false) ∧ Hid (Below w.heap.size w wr)) (fun v _ => xs.length - (intOf v).toNat)
 case atStart => exact ⟨0, Nat.zero_le _, rfl, lH_ (fun j hj => absurd hj (Nat.not_lt_zero _)), lH_ (Below.refl _ _)⟩
 case round =>
 obtain ⟨k, hk, rfl, HP, HB⟩ := hrel
 by_cases hlt : k < xs.length
 ·obtain ⟨ad, c0, rfl, hK, g0⟩ := el1 HSZ.out HC.out z k hlt
  replace g0 := pw_cell_below HB.out g0
  have HFK := lH_ (HF.out k hlt c0 hK wr HB.out)
  have hpx : p (xs.getD k z) = true ∨ p (xs.getD k z) = false := by cases p (xs.getD k z) <;> simp
  have hnext : p (xs.getD k z) = false → ∀ j, j < k + 1 → p (xs.getD j z) = false := by
   intro h j hj
   rcases Nat.lt_or_ge j k with h1 | h1
   ·exact HP.out j h1
   ·rw [show j = k by omega]; exact h
  have HE := lH_ (fun h => ixOf_at p xs z k hlt HP.out h)
  have HN := lH_ hnext
  generalize xs.getD k z = xk at *
  have hcap : (k : Int) < xs.length := by omega
  clear hnext HP hK
  rcases hpx with hpx | hpx
  all_goals
   have PX := lH_ hpx
   clear hpx
   go_wp2_with fail
   refine HFK.out.mono ?_
   rintro e w1 ⟨rfl, hb⟩
   have HB1 := lH_ (bthen' HB.out hb)
   clear hb
   rw [PX.out]
   go_wp2_with fail
  ·go_ret
   exact ⟨ret_int (HE.out PX.out).symm, HB1.out⟩
  ·go_roundw
   case rel => exact ⟨k + 1, by omega, by go_num, lH_ (HN.out PX.out), HB1⟩
   case measure => simp [intOf]; omega
 ·have hk2 : k = xs.length := by omega
  have HE := lH_ (ixOf_none p xs z (fun j hj => HP.out j (by omega)))
  clear HP HF
  go_wp2_with fail
  go_ret
  exact ⟨ret_int HE.out.symm, HB.out⟩
theorem any_within {α : Type} {d : Kd α} (z : α) (p : α → Bool) (xs : List α) (A : Option Addr) (c : Nat) (cp0 : Value) (w : World) (hs : d.sz = 1) (hC : Kd.C d w A xs.length xs)
  (hf : ∀ j, j < xs.length → ∀ c0 : Value, d.K w (xs.getD j z) [c0] → ∀ w1, Below w.heap.size w w1 → Calls Try.prog 78 #[c0, cp0] w1 fun e w2 => e = .returned (.bool (p (xs.getD j z))) ∧ Below w1.heap.size w1 w2) :
  Calls Try.prog 72 #[.slice A xs.length c, .func (.func 78) #[] #[cp0]] w fun e w' => e = .returned (.bool (xs.any p)) ∧ Below w.heap.size w w' := by
 have hC' := lH_ (ix_within z p xs A c cp0 w hs hC hf)
 have hix := ixOf_any p xs
 have hix' : xs.any p = true ∨ xs.any p = false := by cases xs.any p <;> simp
 clear hC hf hs
 rcases hix' with hix' | hix'
 all_goals
  rw [hix'] at hix
  have hd : decide (0 ≤ ixOf p xs) = _ := hix
  have HX := lH_ hix'
  rw [hix']
  clear hix hix'
  go_enter Try.func72, Try.ntmps72
  go_wp2_with fail
  refine hC'.out.mono ?_
  rintro e w1 ⟨rfl, hb⟩
  go_wp2_with fail
  go_ret
  exact ⟨rfl, hb⟩
theorem ix_region {α : Type} {d : Kd α} (z : α) (p : α → Bool) (xs : List α) (A : Option Addr) (c : Nat) (cp0 : Value) (w : World) (hs : d.sz = 1) (hC : Kd.C d w A xs.length xs)
  (hf : ∀ j, j < xs.length → ∀ c0 : Value, d.K w (xs.getD j z) [c0] → ∀ w1, Below w.heap.size w w1 → Calls Try.prog 44 #[.agg #[c0], cp0] w1 fun e w2 => e = .returned (.bool (p (xs.getD j z))) ∧ Below w1.heap.size w1 w2) :
  Calls Try.prog 79 #[.slice A xs.length c, .func (.func 44) #[] #[cp0]] w fun e w' => e = .returned (.int .i64 (ixOf p xs)) ∧ Below w.heap.size w w' := by
 have hm : xs.length ≤ 9223372036854775807 := hC.2.1
 have HC := lH_ hC
 have HF := lH_ hf
 have HSZ := lH_ hs
 clear hC hf hs
 go_enter Try.func79, Try.ntmps79
 go_wp2_with fail
 go_loopw [8] (fun v wr => ∃ k : Nat, k ≤ xs.length ∧ v = .int .i64 k ∧ Hid (∀ j, j < k → p (xs.getD j z) = false) ∧ Hid (Below w.heap.size w wr)) (fun v _ => xs.length - (intOf v).toNat)
 case atStart => exact ⟨0, Nat.zero_le _, rfl, lH_ (fun j hj => absurd hj (Nat.not_lt_zero _)), lH_ (Below.refl _ _)⟩
 case round =>
 obtain ⟨k, hk, rfl, HP, HB⟩ := hrel
 by_cases hlt : k < xs.length
 ·obtain ⟨ad, c0, rfl, hK, g0⟩ := el1 HSZ.out HC.out z k hlt
  replace g0 := pw_cell_below HB.out g0
  have HFK := lH_ (HF.out k hlt c0 hK wr HB.out)
  have hpx : p (xs.getD k z) = true ∨ p (xs.getD k z) = false := by cases p (xs.getD k z) <;> simp
  have hnext : p (xs.getD k z) = false → ∀ j, j < k + 1 → p (xs.getD j z) = false := by
   intro h j hj
   rcases Nat.lt_or_ge j k with h1 | h1
   ·exact HP.out j h1
   ·rw [show j = k by omega]; exact h
  have HE := lH_ (fun h => ixOf_at p xs z k hlt HP.out h)
  have HN := lH_ hnext
  generalize xs.getD k z = xk at *
  have hcap : (k : Int) < xs.length := by omega
  clear hnext HP hK
  rcases hpx with hpx | hpx
  all_goals
   have PX := lH_ hpx
   clear hpx
   go_wp2_with fail
   refine HFK.out.mono ?_
   rintro e w1 ⟨rfl, hb⟩
   have HB1 := lH_ (bthen' HB.out hb)
   clear hb
   rw [PX.out]
   go_wp2_with fail
  ·go_ret
   exact ⟨ret_int (HE.out PX.out).symm, HB1.out⟩
  ·go_roundw
   case rel => exact ⟨k + 1, by omega, by go_num, lH_ (HN.out PX.out), HB1⟩
   case measure => simp [intOf]; omega
 ·have hk2 : k = xs.length := by omega
  have HE := lH_ (ixOf_none p xs z (fun j hj => HP.out j (by omega)))
  clear HP HF
  go_wp2_with fail
  go_ret
  exact ⟨ret_int HE.out.symm, HB.out⟩
theorem any_region {α : Type} {d : Kd α} (z : α) (p : α → Bool) (xs : List α) (A : Option Addr) (c : Nat) (cp0 : Value) (w : World) (hs : d.sz = 1) (hC : Kd.C d w A xs.length xs)
  (hf : ∀ j, j < xs.length → ∀ c0 : Value, d.K w (xs.getD j z) [c0] → ∀ w1, Below w.heap.size w w1 → Calls Try.prog 44 #[.agg #[c0], cp0] w1 fun e w2 => e = .returned (.bool (p (xs.getD j z))) ∧ Below w1.heap.size w1 w2) :
  Calls Try.prog 43 #[.slice A xs.length c, .func (.func 44) #[] #[cp0]] w fun e w' => e = .returned (.bool (xs.any p)) ∧ Below w.heap.size w w' := by
 have hC' := lH_ (ix_region z p xs A c cp0 w hs hC hf)
 have hix := ixOf_any p xs
 have hix' : xs.any p = true ∨ xs.any p = false := by cases xs.any p <;> simp
 clear hC hf hs
 rcases hix' with hix' | hix'
 all_goals
  rw [hix'] at hix
  have hd : decide (0 ≤ ixOf p xs) = _ := hix
  have HX := lH_ hix'
  rw [hix']
  clear hix hix'
  go_enter Try.func43, Try.ntmps43
  go_wp2_with fail
  refine hC'.out.mono ?_
  rintro e w1 ⟨rfl, hb⟩
  go_wp2_with fail
  go_ret
  exact ⟨rfl, hb⟩
theorem ix_pts {α : Type} {d : Kd α} (z : α) (p : α → Bool) (xs : List α) (A : Option Addr) (c : Nat)  (w : World) (hs : d.sz = 1) (hC : Kd.C d w A xs.length xs)
  (hf : ∀ j, j < xs.length → ∀ c0 : Value, d.K w (xs.getD j z) [c0] → ∀ w1, Below w.heap.size w w1 → Calls Try.prog 88 #[c0] w1 fun e w2 => e = .returned (.bool (p (xs.getD j z))) ∧ Below w1.heap.size w1 w2) :
  Calls Try.prog 96 #[.slice A xs.length c, .func (.func 88) #[] #[]] w fun e w' => e = .returned (.int .i64 (ixOf p xs)) ∧ Below w.heap.size w w' := by
 have hm : xs.length ≤ 9223372036854775807 := hC.2.1
 have HC := lH_ hC
 have HF := lH_ hf
 have HSZ := lH_ hs
 clear hC hf hs
 go_enter Try.func96, Try.ntmps96
 go_wp2_with fail
 go_loopw [8] (fun v wr => ∃ k : Nat, k ≤ xs.length ∧ v = .int .i64 k ∧ Hid (∀ j, j < k → p (xs.getD j z) = false) ∧ Hid (Below w.heap.size w wr)) (fun v _ => xs.length - (intOf v).toNat)
 case atStart => exact ⟨0, Nat.zero_le _, rfl, lH_ (fun j hj => absurd hj (Nat.not_lt_zero _)), lH_ (Below.refl _ _)⟩
 case round =>
 obtain ⟨k, hk, rfl, HP, HB⟩ := hrel
 by_cases hlt : k < xs.length
 ·obtain ⟨ad, c0, rfl, hK, g0⟩ := el1 HSZ.out HC.out z k hlt
  replace g0 := pw_cell_below HB.out g0
  have HFK := lH_ (HF.out k hlt c0 hK wr HB.out)
  have hpx : p (xs.getD k z) = true ∨ p (xs.getD k z) = false := by cases p (xs.getD k z) <;> simp
  have hnext : p (xs.getD k z) = false → ∀ j, j < k + 1 → p (xs.getD j z) = false := by
   intro h j hj
   rcases Nat.lt_or_ge j k with h1 | h1
   ·exact HP.out j h1
   ·rw [show j = k by omega]; exact h
  have HE := lH_ (fun h => ixOf_at p xs z k hlt HP.out h)
  have HN := lH_ hnext
  generalize xs.getD k z = xk at *
  have hcap : (k : Int) < xs.length := by omega
  clear hnext HP hK
  rcases hpx with hpx | hpx
  all_goals
   have PX := lH_ hpx
   clear hpx
   go_wp2_with fail
   refine HFK.out.mono ?_
   rintro e w1 ⟨rfl, hb⟩
   have HB1 := lH_ (bthen' HB.out hb)
   clear hb
   rw [PX.out]
   go_wp2_with fail
  ·go_ret
   exact ⟨ret_int (HE.out PX.out).symm, HB1.out⟩
  ·go_roundw
   case rel => exact ⟨k + 1, by omega, by go_num, lH_ (HN.out PX.out), HB1⟩
   case measure => simp [intOf]; omega
 ·have hk2 : k = xs.length := by omega
  have HE := lH_ (ixOf_none p xs z (fun j hj => HP.out j (by omega)))
  clear HP HF
  go_wp2_with fail
  go_ret
  exact ⟨ret_int HE.out.symm, HB.out⟩
theorem any_pts {α : Type} {d : Kd α} (z : α) (p : α → Bool) (xs : List α) (A : Option Addr) (c : Nat)  (w : World) (hs : d.sz = 1) (hC : Kd.C d w A xs.length xs)
  (hf : ∀ j, j < xs.length → ∀ c0 : Value, d.K w (xs.getD j z) [c0] → ∀ w1, Below w.heap.size w w1 → Calls Try.prog 88 #[c0] w1 fun e w2 => e = .returned (.bool (p (xs.getD j z))) ∧ Below w1.heap.size w1 w2) :
  Calls Try.prog 87 #[.slice A xs.length c, .func (.func 88) #[] #[]] w fun e w' => e = .returned (.bool (xs.any p)) ∧ Below w.heap.size w w' := by
 have hC' := lH_ (ix_pts z p xs A c  w hs hC hf)
 have hix := ixOf_any p xs
 have hix' : xs.any p = true ∨ xs.any p = false := by cases xs.any p <;> simp
 clear hC hf hs
 rcases hix' with hix' | hix'
 all_goals
  rw [hix'] at hix
  have hd : decide (0 ≤ ixOf p xs) = _ := hix
  have HX := lH_ hix'
  rw [hix']
  clear hix hix'
  go_enter Try.func87, Try.ntmps87
  go_wp2_with fail
  refine hC'.out.mono ?_
  rintro e w1 ⟨rfl, hb⟩
  go_wp2_with fail
  go_ret
  exact ⟨rfl, hb⟩
theorem ix_pt {α : Type} {d : Kd α} (z : α) (p : α → Bool) (xs : List α) (A : Option Addr) (c : Nat)  (w : World) (hs : d.sz = 3) (hC : Kd.C d w A xs.length xs)
  (hf : ∀ j, j < xs.length → ∀ c0 c1 c2 : Value, d.K w (xs.getD j z) [c0, c1, c2] → ∀ w1, Below w.heap.size w w1 → Calls Try.prog 90 #[.agg #[c0, c1, c2]] w1 fun e w2 => e = .returned (.bool (p (xs.getD j z))) ∧ Below w1.heap.size w1 w2) :
  Calls Try.prog 97 #[.slice A xs.length c, .func (.func 90) #[] #[]] w fun e w' => e = .returned (.int .i64 (ixOf p xs)) ∧ Below w.heap.size w w' := by
 have hm : xs.length ≤ 9223372036854775807 := hC.2.1
 have HC := lH_ hC
 have HF := lH_ hf
 have HSZ := lH_ hs
 clear hC hf hs
 go_enter Try.func97, Try.ntmps97
 go_wp2_with fail
 go_loopw [8] (fun v wr => ∃ k : Nat, k ≤ xs.length ∧ v = .int .i64 k ∧ Hid (∀ j, j < k → p (xs.getD j z) = false) ∧ Hid (Below w.heap.size w wr)) (fun v _ => xs.length - (intOf v).toNat)
 case atStart => exact ⟨0, Nat.zero_le _, rfl, lH_ (fun j hj => absurd hj (Nat.not_lt_zero _)), lH_ (Below.refl _ _)⟩
 case round =>
 obtain ⟨k, hk, rfl, HP, HB⟩ := hrel
 by_cases hlt : k < xs.length
 ·obtain ⟨ad, c0, c1, c2, rfl, hK, g0, g1, g2⟩ := el3 HSZ.out HC.out z k hlt
  replace g0 := pw_cell_below HB.out g0
  replace g1 := pw_cell_below HB.out g1
  replace g2 := pw_cell_below HB.out g2
  have HFK := lH_ (HF.out k hlt c0 c1 c2 hK wr HB.out)
  have hpx : p (xs.getD k z) = true ∨ p (xs.getD k z) = false := by cases p (xs.getD k z) <;> simp
  have hnext : p (xs.getD k z) = false → ∀ j, j < k + 1 → p (xs.getD j z) = false := by
   intro h j hj
   rcases Nat.lt_or_ge j k with h1 | h1
   ·exact HP.out j h1
   ·rw [show j = k by omega]; exact h
  have HE := lH_ (fun h => ixOf_at p xs z k hlt HP.out h)
  have HN := lH_ hnext
  generalize xs.getD k z = xk at *
  have hcap : (k : Int) < xs.length := by omega
  clear hnext HP hK
  rcases hpx with hpx | hpx
  all_goals
   have PX := lH_ hpx
   clear hpx
   go_wp2_with fail
   refine HFK.out.mono ?_
   rintro e w1 ⟨rfl, hb⟩
   have HB1 := lH_ (bthen' HB.out hb)
   clear hb
   rw [PX.out]
   go_wp2_with fail
  ·go_ret
   exact ⟨ret_int (HE.out PX.out).symm, HB1.out⟩
  ·go_roundw
   case rel => exact ⟨k + 1, by omega, by go_num, lH_ (HN.out PX.out), HB1⟩
   case measure => simp [intOf]; omega
 ·have hk2 : k = xs.length := by omega
  have HE := lH_ (ixOf_none p xs z (fun j hj => HP.out j (by omega)))
  clear HP HF
  go_wp2_with fail
  go_ret
  exact ⟨ret_int HE.out.symm, HB.out⟩
theorem any_pt {α : Type} {d : Kd α} (z : α) (p : α → Bool) (xs : List α) (A : Option Addr) (c : Nat)  (w : World) (hs : d.sz = 3) (hC : Kd.C d w A xs.length xs)
  (hf : ∀ j, j < xs.length → ∀ c0 c1 c2 : Value, d.K w (xs.getD j z) [c0, c1, c2] → ∀ w1, Below w.heap.size w w1 → Calls Try.prog 90 #[.agg #[c0, c1, c2]] w1 fun e w2 => e = .returned (.bool (p (xs.getD j z))) ∧ Below w1.heap.size w1 w2) :
  Calls Try.prog 89 #[.slice A xs.length c, .func (.func 90) #[] #[]] w fun e w' => e = .returned (.bool (xs.any p)) ∧ Below w.heap.size w w' := by
 have hC' := lH_ (ix_pt z p xs A c  w hs hC hf)
 have hix := ixOf_any p xs
 have hix' : xs.any p = true ∨ xs.any p = false := by cases xs.any p <;> simp
 clear hC hf hs
 rcases hix' with hix' | hix'
 all_goals
  rw [hix'] at hix
  have hd : decide (0 ≤ ixOf p xs) = _ := hix
  have HX := lH_ hix'
  rw [hix']
  clear hix hix'
  go_enter Try.func89, Try.ntmps89
  go_wp2_with fail
  refine hC'.out.mono ?_
  rintro e w1 ⟨rfl, hb⟩
  go_wp2_with fail
  go_ret
  exact ⟨rfl, hb⟩
theorem ix_move {α : Type} {d : Kd α} (z : α) (p : α → Bool) (xs : List α) (A : Option Addr) (c : Nat)  (w : World) (hs : d.sz = 2) (hC : Kd.C d w A xs.length xs)
  (hf : ∀ j, j < xs.length → ∀ c0 c1 : Value, d.K w (xs.getD j z) [c0, c1] → ∀ w1, Below w.heap.size w w1 → Calls Try.prog 92 #[.agg #[c0, c1]] w1 fun e w2 => e = .returned (.bool (p (xs.getD j z))) ∧ Below w1.heap.size w1 w2) :
  Calls Try.prog 98 #[.slice A xs.length c, .func (.func 92) #[] #[]] w fun e w' => e = .returned (.int .i64 (ixOf p xs)) ∧ Below w.heap.size w w' := by
 have hm : xs.length ≤ 9223372036854775807 := hC.2.1
 have HC := lH_ hC
 have HF := lH_ hf
 have HSZ := lH_ hs
 clear hC hf hs
 go_enter Try.func98, Try.ntmps98
 go_wp2_with fail
 go_loopw [8] (fun v wr => ∃ k : Nat, k ≤ xs.length ∧ v = .int .i64 k ∧ Hid (∀ j, j < k → p (xs.getD j z) = false) ∧ Hid (Below w.heap.size w wr)) (fun v _ => xs.length - (intOf v).toNat)
 case atStart => exact ⟨0, Nat.zero_le _, rfl, lH_ (fun j hj => absurd hj (Nat.not_lt_zero _)), lH_ (Below.refl _ _)⟩
 case round =>
 obtain ⟨k, hk, rfl, HP, HB⟩ := hrel
 by_cases hlt : k < xs.length
 ·obtain ⟨ad, c0, c1, rfl, hK, g0, g1⟩ := el2 HSZ.out HC.out z k hlt
  replace g0 := pw_cell_below HB.out g0
  replace g1 := pw_cell_below HB.out g1
  have HFK := lH_ (HF.out k hlt c0 c1 hK wr HB.out)
  have hpx : p (xs.getD k z) = true ∨ p (xs.getD k z) = false := by cases p (xs.getD k z) <;> simp
  have hnext : p (xs.getD k z) = false → ∀ j, j < k + 1 → p (xs.getD j z) = false := by
   intro h j hj
   rcases Nat.lt_or_ge j k with h1 | h1
   ·exact HP.out j h1
   ·rw [show j = k by omega]; exact h
  have HE := lH_ (fun h => ixOf_at p xs z k hlt HP.out h)
  have HN := lH_ hnext
  generalize xs.getD k z = xk at *
  have hcap : (k : Int) < xs.length := by omega
  clear hnext HP hK
  rcases hpx with hpx | hpx
  all_goals
   have PX := lH_ hpx
   clear hpx
   go_wp2_with fail
   refine HFK.out.mono ?_
   rintro e w1 ⟨rfl, hb⟩
   have HB1 := lH_ (bthen' HB.out hb)
   clear hb
   rw [PX.out]
   go_wp2_with fail
  ·go_ret
   exact ⟨ret_int (HE.out PX.out).symm, HB1.out⟩
  ·go_roundw
   case rel => exact ⟨k + 1, by omega, by go_num, lH_ (HN.out PX.out), HB1⟩
   case measure => simp [intOf]; omega
 ·have hk2 : k = xs.length := by omega
  have HE := lH_ (ixOf_none p xs z (fun j hj => HP.out j (by omega)))
  clear HP HF
  go_wp2_with fail
  go_ret
  exact ⟨ret_int HE.out.symm, HB.out⟩
theorem any_move {α : Type} {d : Kd α} (z : α) (p : α → Bool) (xs : List α) (A : Option Addr) (c : Nat)  (w : World) (hs : d.sz = 2) (hC : Kd.C d w A xs.length xs)
  (hf : ∀ j, j < xs.length → ∀ c0 c1 : Value, d.K w (xs.getD j z) [c0, c1] → ∀ w1, Below w.heap.size w w1 → Calls Try.prog 92 #[.agg #[c0, c1]] w1 fun e w2 => e = .returned (.bool (p (xs.getD j z))) ∧ Below w1.heap.size w1 w2) :
  Calls Try.prog 91 #[.slice A xs.length c, .func (.func 92) #[] #[]] w fun e w' => e = .returned (.bool (xs.any p)) ∧ Below w.heap.size w w' := by
 have hC' := lH_ (ix_move z p xs A c  w hs hC hf)
 have hix := ixOf_any p xs
 have hix' : xs.any p = true ∨ xs.any p = false := by cases xs.any p <;> simp
 clear hC hf hs
 rcases hix' with hix' | hix'
 all_goals
  rw [hix'] at hix
  have hd : decide (0 ≤ ixOf p xs) = _ := hix
  have HX := lH_ hix'
  rw [hix']
  clear hix hix'
  go_enter Try.func91, Try.ntmps91
  go_wp2_with fail
  refine hC'.out.mono ?_
  rintro e w1 ⟨rfl, hb⟩
  go_wp2_with fail
  go_ret
  exact ⟨rfl, hb⟩
/- fix: Round, Mul, Part, Times -/
def rnd (n d : Int) : Int := if d - n % d ≤ n % d then n / d + 1 else n / d
theorem quo_bounds {n d : Int} (hd : 1 ≤ d) (h1 : -9223372036854775808 ≤ n) (h2 : n ≤ 9223372036854775807) : -9223372036854775808 ≤ n / d ∧ n / d ≤ 9223372036854775807 ∧ (n % d ≠ 0 → -4611686018427387905 ≤ n / d ∧ n / d ≤ 4611686018427387904) := by
 have e := Int.emod_add_mul_ediv n d
 have m0 := Int.emod_nonneg n (show d ≠ 0 by omega)
 have m1 := Int.emod_lt_of_pos n (show 0 < d by omega)
 generalize n / d = q at *
 generalize n % d = r at *
 have a1 : -9223372036854775808 ≤ q := by
  apply Decidable.byContradiction; intro h
  have : d * q ≤ d * (-9223372036854775809) := Int.mul_le_mul_of_nonneg_left (by omega) (by omega)
  omega
 have a2 : q ≤ 9223372036854775807 := by
  apply Decidable.byContradiction; intro h
  have : d * (9223372036854775808) ≤ d * q := Int.mul_le_mul_of_nonneg_left (by omega) (by omega)
  omega
 refine ⟨a1, a2, fun h => ⟨?_, ?_⟩⟩
 ·apply Decidable.byContradiction; intro h
  have : d * q ≤ d * (-4611686018427387906) := Int.mul_le_mul_of_nonneg_left (by omega) (by omega)
  omega
 ·apply Decidable.byContradiction; intro h
  have : d * (4611686018427387905) ≤ d * q := Int.mul_le_mul_of_nonneg_left (by omega) (by omega)
  omega
theorem tquo_pos {n d : Int} (hd : 1 ≤ d) (h : 0 ≤ n ∨ n % d = 0) : n.tmod d = n % d ∧ n.tdiv d = n / d := by
 have h1 := Int.emod_add_mul_ediv n d
 rcases h with h | h
 ·exact ⟨Int.tmod_eq_emod_of_nonneg h, Int.tdiv_eq_ediv_of_nonneg h⟩
 ·have hdv : d ∣ n := Int.dvd_of_emod_eq_zero h
  refine ⟨?_, ?_⟩
  ·rw [Int.tmod_eq_emod]; simp [hdv]
  ·rw [Int.tdiv_eq_ediv]; simp [hdv]
theorem tquo_neg {n d : Int} (hd : 1 ≤ d) (h : n < 0) (h' : n % d ≠ 0) : n.tmod d = n % d - d ∧ n.tdiv d = n / d + 1 := by
 have hdv : ¬ d ∣ n := fun hd => h' (Int.emod_eq_zero_of_dvd hd)
 have hs : d.sign = 1 := Int.sign_eq_one_of_pos (by omega)
 refine ⟨?_, ?_⟩
 ·rw [Int.tmod_eq_emod, if_neg (by intro hh; rcases hh with hh | hh; omega; exact hdv hh)]; omega
 ·rw [Int.tdiv_eq_ediv, if_neg (by intro hh; rcases hh with hh | hh; omega; exact hdv hh), hs]
theorem round_more (r d : Int) (w : World) (h0 : 0 ≤ r) (h1 : r < d) (hd : d ≤ 9223372036854775807) :
  Calls Try.prog 84 #[.int .i64 r, .int .i64 d] w fun e w' => e = .returned (.bool (decide (d - r ≤ r))) ∧ w = w' := by
 go_enter Try.func84, Try.ntmps84
 go_wp2
 go_ret
 exact ⟨by first | rfl | simp, rfl⟩
theorem quo_round (n d : Int) (w : World) (h0 : 1 ≤ d) (hd : d ≤ 9223372036854775807) (hn : -9223372036854775808 ≤ n) (hn' : n ≤ 9223372036854775807) :
  Calls Try.prog 85 #[.agg #[.func (.func 84) #[] #[]], .int .i64 n, .int .i64 d] w fun e w' => e = .returned (.tuple #[.int .i64 (rnd n d), .bool true]) ∧ Below w.heap.size w w' := by
 have b0 : (d == 0) = false := by simp; omega
 obtain ⟨q1, q2, q3⟩ := quo_bounds h0 hn hn'
 have m0 := Int.emod_nonneg n (show d ≠ 0 by omega)
 have m1 := Int.emod_lt_of_pos n (show 0 < d by omega)
 unfold rnd
 by_cases hs : 0 ≤ n ∨ n % d = 0
 ·obtain ⟨t1, t2⟩ := tquo_pos h0 hs
  have q4 : n % d ≠ 0 → -4611686018427387905 ≤ n / d := fun h => (q3 h).1
  have q5 : n % d ≠ 0 → n / d ≤ 4611686018427387904 := fun h => (q3 h).2
  clear q3 hs
  generalize n / d = q at *
  generalize n % d = r at *
  by_cases hm : d - r ≤ r
  all_goals
   first | rw [if_pos hm] | rw [if_neg hm] | skip
   first | (have hm' : (decide (d - r ≤ r)) = true := by simp [hm]) | (have hm' : (decide (d - r ≤ r)) = false := by simp [hm])
   first | (have q6 : -4611686018427387905 ≤ q := by omega) | skip
   first | (have q7 : q ≤ 4611686018427387904 := by omega) | skip
   clear q4 q5
   have HM := lH_ hm'
   clear hm hm'
   go_enter Try.func85, Try.ntmps85
   go_wp2
   go_quiet (fail)
   go_wp2_with (go_at_call 84; refine (round_more _ _ _ (by omega) (by omega) (by omega)).mono ?_; rintro e w' ⟨rfl, rfl⟩; rw [HM.out])
   go_ret2
   exact ⟨rfl, bdrewN (balloc (Below.refl _ _) _) _⟩
 ·have hs1 : n < 0 := by omega
  have hs2 : n % d ≠ 0 := by omega
  obtain ⟨t1, t2⟩ := tquo_neg h0 hs1 hs2
  have q4 := (q3 hs2).1
  have q5 := (q3 hs2).2
  clear q3 hs
  generalize n / d = q at *
  generalize n % d = r at *
  have q6 : 0 < r := by omega
  by_cases hm : d - r ≤ r
  all_goals
   first | rw [if_pos hm] | rw [if_neg hm] | skip
   first | (have hm' : (decide (d - r ≤ r)) = true := by simp [hm]) | (have hm' : (decide (d - r ≤ r)) = false := by simp [hm])
   have HM := lH_ hm'
   clear hm hm'
   have e1 : r - d + d = r := by omega
   have e2 : q + 1 - 1 = q := by omega
   go_enter Try.func85, Try.ntmps85
   go_wp2
   go_quiet (fail)
   go_wp2_with (go_at_call 84; refine (round_more _ _ _ (by omega) (by omega) (by omega)).mono ?_; rintro e w' ⟨rfl, rfl⟩; rw [HM.out])
   go_ret2
   exact ⟨rfl, bdrewN (balloc (Below.refl _ _) _) _⟩
theorem round_any (n d : Int) (w : World) (h0 : 1 ≤ d) (hd : d ≤ 9223372036854775807) (hn : -9223372036854775808 ≤ n) (hn' : n ≤ 9223372036854775807) :
  Calls Try.prog 53 #[.int .i64 n, .int .i64 d] w fun e w' => e = .returned (.tuple #[.int .i64 (rnd n d), .bool true]) ∧ Below w.heap.size w w' := by
 go_enter Try.func53, Try.ntmps53
 go_wp2_with (go_at_call 85; refine (quo_round _ _ _ h0 hd hn hn').mono ?_; rintro e w' ⟨rfl, hb⟩)
 go_ret2
 exact ⟨rfl, hb⟩
def sm (x : Int) : Bool := decide (-1048576 ≤ x) && decide (x ≤ 1048576)
theorem sm_true {x : Int} : sm x = true ↔ -1048576 ≤ x ∧ x ≤ 1048576 := by simp [sm]
theorem sm_false {x : Int} : sm x = false ↔ x < -1048576 ∨ 1048576 < x := by simp [sm]; omega
theorem all_take {l : List Int} {k : Nat} (hk : k < l.length) (p : Int → Bool) (h : (l.take k).all p = true) (h' : p (l.getD k 0) = true) : (l.take (k + 1)).all p = true := by
 rw [List.take_succ_eq_append_getElem hk, List.all_append, h]
 simp [List.getD_eq_getElem?_getD, hk] at h' ⊢
 exact h'
theorem all_no {l : List Int} {k : Nat} (hk : k < l.length) (p : Int → Bool) (h' : p (l.getD k 0) = false) : l.all p = false := by
 rw [List.all_eq_false]
 refine ⟨l[k], List.getElem_mem hk, ?_⟩
 simp [List.getD_eq_getElem?_getD, hk] at h'
 simp [h']
theorem small_any (g c : Nat) (l : List Int) (w : World) (hl : l.length ≤ 100) (hc : ∀ j, j < l.length → w.cell? ⟨g, j, none⟩ = some (.int .i64 (l.getD j 0))) :
  Calls Try.prog 51 #[.slice (some ⟨g, 0, none⟩) l.length c] w fun e w' => e = .returned (.bool (l.all sm)) ∧ w = w' := by
 have HC := lH_ hc
 clear hc
 go_enter Try.func51, Try.ntmps51
 go_wp2
 go_loop [7] (fun i => ∃ k : Nat, k ≤ l.length ∧ i = .int .i64 k ∧ Hid ((l.take k).all sm = true)) (fun i => l.length - (intOf i).toNat)
 case atStart => exact ⟨0, Nat.zero_le _, rfl, by simp [Hid]⟩
 case round =>
  obtain ⟨k, hk, rfl, ht⟩ := hrel
  by_cases hlt : k < l.length
  ·have hcell := HC.out k hlt
   by_cases hs : sm (l.getD k 0) = true
   ·have ht' := all_take hlt sm ht.out hs
    have hs' := sm_true.1 hs
    have HT := lH_ ht'
    clear ht' hs ht
    generalize l.getD k 0 = x at *
    obtain ⟨x1, x2⟩ := hs'
    go_wp2
    go_round
    case rel => exact ⟨k + 1, by omega, by go_num, HT.out⟩
    case measure => simp [intOf]; omega
   ·have hs2 : sm (l.getD k 0) = false := by simpa using hs
    have hno := all_no hlt sm hs2
    have hs' := sm_false.1 hs2
    have HT := lH_ hno
    clear hno hs hs2 ht
    generalize l.getD k 0 = x at *
    by_cases hx : x < -1048576
    ·clear hs'
     go_wp2
     go_ret
     exact ⟨ret_bool HT.out.symm, rfl⟩
    ·have hx' : 1048576 < x := by omega
     clear hs'
     go_wp2
     go_ret
     exact ⟨ret_bool HT.out.symm, rfl⟩
  ·have hh : (l.all sm) = true := by have := ht.out; rwa [List.take_of_length_le (by omega)] at this
   have HT := lH_ hh
   clear hh ht
   go_wp2
   go_ret
   exact ⟨ret_bool HT.out.symm, rfl⟩
theorem small_new (l : List Int) (g n c : Nat) (W : World) (xs : Array Value) (T : TypeId) (hx : xs = (l.map (Value.int .i64)).toArray) (hl : l.length ≤ 100) (hn : n = l.length) (hg : g = W.heap.size) :
  Calls Try.prog 51 #[.slice (some ⟨g, 0, none⟩) n c] (W.alloc (.cells xs T)) fun e w' => e = .returned (.bool (l.all sm)) ∧ W.alloc (.cells xs T) = w' := by
 subst hg hn hx
 refine small_any _ c l _ hl fun j hj => ?_
 rw [World.cell?_alloc_new]
 simp [List.getD_eq_getElem?_getD, hj]
theorem gcd_step (a b : Nat) (hb : 0 < b) : Nat.gcd b (a % b) = Nat.gcd a b := by
 rw [Nat.gcd_comm a b, Nat.gcd_rec b a, Nat.gcd_comm]
theorem common_any (a b : Nat) (w : World) (ha : a ≤ 9223372036854775807) (hb : b ≤ 9223372036854775807) :
  Calls Try.prog 83 #[.int .i64 a, .int .i64 b] w fun e w' => e = .returned (.int .i64 (Nat.gcd a b)) ∧ ∃ n, w' = w.drewN n := by
 go_enter Try.func83, Try.ntmps83
 go_wp2
 go_loopw [0, 1] (fun x y wr => ∃ p q : Nat, p ≤ 9223372036854775807 ∧ q ≤ 9223372036854775807 ∧ x = .int .i64 p ∧ y = .int .i64 q ∧ Hid (Nat.gcd p q = Nat.gcd a b) ∧ Hid (∃ n, wr = w.drewN n)) (fun x y _ => (intOf y).toNat)
 case atStart => exact ⟨a, b, ha, hb, rfl, rfl, rfl, ⟨0, rfl⟩⟩
 case round =>
  obtain ⟨p, q, hp, hq, rfl, rfl, hg, hw⟩ := hrel
  by_cases h0 : 0 < q
  ·have hg' := gcd_step p q h0
   rw [hg.out] at hg'
   have HG := lH_ hg'
   clear hg' hg
   have b0 : ((q : Int) == 0) = false := by simp; omega
   have m := Nat.mod_lt p h0
   have e1 : ((p : Int)).tmod (q : Int) = ((p % q : Nat) : Int) := rfl
   go_wp2
   go_quiet (fail)
   go_wp2
   go_roundw
   case rel => exact ⟨q, p % q, hq, by omega, rfl, rfl, HG.out, by obtain ⟨n, rfl⟩ := hw.out; exact ⟨_, World.drewN_drewN _ _ _⟩⟩
   case measure => simp [intOf]; omega
  ·have hq0 : q = 0 := by omega
   subst hq0
   have hg' := hg.out
   rw [Nat.gcd_zero_right] at hg'
   have HG := lH_ hg'
   clear hg' hg
   go_wp2
   go_ret
   exact ⟨ret_int (by rw [HG.out]), hw.out⟩
def rightB (n d : Int) : Bool := decide (1 ≤ d ∧ d ≤ 262144 ∧ 0 ≤ n ∧ n ≤ d ∧ Nat.gcd n.toNat d.toNat = 1)
theorem rightB_true {n d : Int} : rightB n d = true ↔ 1 ≤ d ∧ d ≤ 262144 ∧ 0 ≤ n ∧ n ≤ d ∧ Nat.gcd n.toNat d.toNat = 1 := by simp [rightB]
theorem right_any (n d : Int) (w : World) :
  Calls Try.prog 52 #[.agg #[.int .i64 n, .int .i64 d]] w fun e w' => e = .returned (.bool (rightB n d)) ∧ Below w.heap.size w w' := by
 by_cases h1 : 1 ≤ d
 ·by_cases h2 : d ≤ 262144
  ·by_cases h3 : 0 ≤ n
   ·by_cases h4 : n ≤ d
    ·obtain ⟨a, rfl⟩ := Int.eq_ofNat_of_zero_le h3
     obtain ⟨b, rfl⟩ := Int.eq_ofNat_of_zero_le (show 0 ≤ d by omega)
     by_cases h5 : Nat.gcd a b = 1
     ·have hr : rightB (a : Int) (b : Int) = true := by rw [rightB_true]; simp only [Int.toNat_natCast]; exact ⟨h1, h2, h3, h4, h5⟩
      have b1 : (((Nat.gcd a b : Nat) : Int) == 1) = true := by rw [h5]; rfl
      have HR := lH_ hr
      have HB := lH_ b1
      clear hr b1 h5
      go_enter Try.func52, Try.ntmps52
      go_wp2_with (go_at_call 83; refine (common_any a b _ (by omega) (by omega)).mono ?_; rintro e w' ⟨rfl, ⟨m, rfl⟩⟩)
      go_ret
      exact ⟨ret_bool (by rw [HR.out]; exact HB.out), bdrewN (balloc (Below.refl _ _) _) _⟩
     ·have hr : rightB (a : Int) (b : Int) = false := by rw [Bool.eq_false_iff]; intro hh; rw [rightB_true] at hh; simp only [Int.toNat_natCast] at hh; exact h5 hh.2.2.2.2
      have b1 : (((Nat.gcd a b : Nat) : Int) == 1) = false := by rw [beq_eq_false_iff_ne]; omega
      have HR := lH_ hr
      have HB := lH_ b1
      clear hr b1 h5
      go_enter Try.func52, Try.ntmps52
      go_wp2_with (go_at_call 83; refine (common_any a b _ (by omega) (by omega)).mono ?_; rintro e w' ⟨rfl, ⟨m, rfl⟩⟩)
      go_ret
      exact ⟨ret_bool (by rw [HR.out]; exact HB.out), bdrewN (balloc (Below.refl _ _) _) _⟩
    ·have hr : rightB n d = false := by rw [Bool.eq_false_iff]; intro hh; rw [rightB_true] at hh; omega
     have HR := lH_ hr
     clear hr
     go_enter Try.func52, Try.ntmps52
     go_wp2
     go_ret
     exact ⟨ret_bool HR.out.symm, balloc (Below.refl _ _) _⟩
   ·have hr : rightB n d = false := by rw [Bool.eq_false_iff]; intro hh; rw [rightB_true] at hh; omega
    have HR := lH_ hr
    clear hr
    go_enter Try.func52, Try.ntmps52
    go_wp2
    go_ret
    exact ⟨ret_bool HR.out.symm, balloc (Below.refl _ _) _⟩
  ·have hr : rightB n d = false := by rw [Bool.eq_false_iff]; intro hh; rw [rightB_true] at hh; omega
   have HR := lH_ hr
   clear hr
   go_enter Try.func52, Try.ntmps52
   go_wp2
   go_ret
   exact ⟨ret_bool HR.out.symm, balloc (Below.refl _ _) _⟩
 ·have hr : rightB n d = false := by rw [Bool.eq_false_iff]; intro hh; rw [rightB_true] at hh; omega
  have HR := lH_ hr
  clear hr
  go_enter Try.func52, Try.ntmps52
  go_wp2
  go_ret
  exact ⟨ret_bool HR.out.symm, balloc (Below.refl _ _) _⟩
def mulQ (a b : Int) : Int := if sm a = true ∧ sm b = true then rnd (a * b) 64 else 0
def mulOk (a b : Int) : Bool := sm a && sm b
theorem mul_bounds {a b : Int} (ha : -1048576 ≤ a ∧ a ≤ 1048576) (hb : -1048576 ≤ b ∧ b ≤ 1048576) : -1099511627776 ≤ a * b ∧ a * b ≤ 1099511627776 := by
 obtain ⟨a1, a2⟩ := ha
 obtain ⟨b1, b2⟩ := hb
 rcases Int.le_total 0 a with h | h
 ·have x1 : a * b ≤ a * 1048576 := Int.mul_le_mul_of_nonneg_left b2 h
  have x2 : a * (-1048576) ≤ a * b := Int.mul_le_mul_of_nonneg_left b1 h
  omega
 ·have x1 : (-a) * b ≤ (-a) * 1048576 := Int.mul_le_mul_of_nonneg_left b2 (by omega)
  have x2 : (-a) * (-1048576) ≤ (-a) * b := Int.mul_le_mul_of_nonneg_left b1 (by omega)
  simp only [Int.neg_mul] at x1 x2
  omega
theorem mul_any (a b : Int) (w : World) :
  Calls Try.prog 86 #[.int .i64 a, .int .i64 b] w fun e w' => e = .returned (.tuple #[.int .i64 (mulQ a b), .bool (mulOk a b)]) ∧ Below w.heap.size w w' := by
 by_cases hs : mulOk a b = true
 ·have hs2 : [a, b].all sm = true := by simpa [mulOk] using hs
  have hq : mulQ a b = rnd (a * b) 64 := by unfold mulQ; rw [if_pos (by simpa [mulOk] using hs)]
  rw [hq, hs]
  have hab : (-1048576 ≤ a ∧ a ≤ 1048576) ∧ (-1048576 ≤ b ∧ b ≤ 1048576) := by simp [mulOk] at hs; exact ⟨sm_true.1 hs.1, sm_true.1 hs.2⟩
  obtain ⟨m1, m2⟩ := mul_bounds hab.1 hab.2
  have HS := lH_ hs2
  clear hs hs2 hq hab
  go_enter Try.func86, Try.ntmps86
  go_wp2_with (first | (go_at_call 51; refine (small_new [a, b] _ _ _ _ _ _ rfl (by simp) rfl rfl).mono ?_; rintro e w' ⟨rfl, rfl⟩; rw [HS.out]) | (go_at_call 53; refine (round_any _ _ _ (by omega) (by omega) (by omega) (by omega)).mono ?_; rintro e w' ⟨rfl, hb⟩))
  go_ret2
  exact ⟨rfl, bthen' (balloc (Below.refl _ _) _) hb⟩
 ·have hs : mulOk a b = false := by simpa using hs
  have hs2 : [a, b].all sm = false := by simpa [mulOk] using hs
  have hq : mulQ a b = 0 := by unfold mulQ; rw [if_neg (by simpa [mulOk] using hs)]
  rw [hq, hs]
  have HS := lH_ hs2
  clear hs hs2 hq
  go_enter Try.func86, Try.ntmps86
  go_wp2_with (first | (go_at_call 51; refine (small_new [a, b] _ _ _ _ _ _ rfl (by simp) rfl rfl).mono ?_; rintro e w' ⟨rfl, rfl⟩; rw [HS.out]))
  go_ret2
  exact ⟨rfl, balloc (Below.refl _ _) _⟩
def partOk (a n d : Int) : Bool := sm a && rightB n d
def partQ (a n d : Int) : Int := if partOk a n d = true then rnd (64 * a * n) d else 0
theorem part_any (a n d : Int) (w : World) :
  Calls Try.prog 18 #[.int .i64 a, .agg #[.int .i64 n, .int .i64 d]] w fun e w' => e = .returned (.tuple #[.int .i64 (partQ a n d), .bool (partOk a n d)]) ∧ Below w.heap.size w w' := by
 by_cases hs : sm a = true
 ·have hs2 : [a].all sm = true := by simpa using hs
  have ha := sm_true.1 hs
  by_cases hr : rightB n d = true
  ·have hok : partOk a n d = true := by simp [partOk, hs, hr]
   have hq : partQ a n d = rnd (64 * a * n) d := by unfold partQ; rw [if_pos hok]
   rw [hq, hok]
   obtain ⟨d1, d2, n1, n2, _⟩ := rightB_true.1 hr
   obtain ⟨m1, m2⟩ := mul_bounds (a := a) (b := n) ha ⟨by omega, by omega⟩
   have e1 : 64 * a * n = 64 * (a * n) := by rw [Int.mul_assoc]
   have m3 : -70368744177664 ≤ 64 * a * n := by omega
   have m4 : 64 * a * n ≤ 70368744177664 := by omega
   have HS := lH_ hs2
   have HR := lH_ hr
   clear hs hs2 hq hok hr e1 m1 m2
   obtain ⟨a1, a2⟩ := ha
   go_enter Try.func18, Try.ntmps18
   go_wp2_with fail
   refine (small_new [a] _ _ _ _ _ _ rfl (by simp) rfl (by simp)).mono ?_
   rintro e w' ⟨rfl, rfl⟩
   rw [HS.out]
   go_wp2_with fail
   refine (right_any _ _ _).mono ?_
   rintro e w1 ⟨rfl, hb1⟩
   rw [HR.out]
   obtain ⟨hc, hf⟩ := bcell hb1
   go_wp2_with fail
   refine (round_any _ _ _ (by omega) (by omega) (by omega) (by omega)).mono ?_
   rintro e w2 ⟨rfl, hb2⟩
   go_wp2
   go_ret2
   exact ⟨rfl, bthen' (bthen' (balloc (balloc (Below.refl _ _) _) _) hb1) hb2⟩
  ·have hr : rightB n d = false := by simpa using hr
   have hok : partOk a n d = false := by simp [partOk, hs, hr]
   have hq : partQ a n d = 0 := by unfold partQ; rw [if_neg (by simp [hok])]
   rw [hq, hok]
   have HS := lH_ hs2
   have HR := lH_ hr
   clear hs hs2 hq hok hr
   go_enter Try.func18, Try.ntmps18
   go_wp2_with fail
   refine (small_new [a] _ _ _ _ _ _ rfl (by simp) rfl (by simp)).mono ?_
   rintro e w' ⟨rfl, rfl⟩
   rw [HS.out]
   go_wp2_with fail
   refine (right_any _ _ _).mono ?_
   rintro e w1 ⟨rfl, hb1⟩
   rw [HR.out]
   go_wp2
   go_ret2
   exact ⟨rfl, bthen' (balloc (balloc (Below.refl _ _) _) _) hb1⟩
 ·have hs : sm a = false := by simpa using hs
  have hs2 : [a].all sm = false := by simpa using hs
  have hok : partOk a n d = false := by simp [partOk, hs]
  have hq : partQ a n d = 0 := by unfold partQ; rw [if_neg (by simp [hok])]
  rw [hq, hok]
  have HS := lH_ hs2
  clear hs hs2 hq hok
  go_enter Try.func18, Try.ntmps18
  go_wp2_with fail
  refine (small_new [a] _ _ _ _ _ _ rfl (by simp) rfl (by simp)).mono ?_
  rintro e w' ⟨rfl, rfl⟩
  rw [HS.out]
  go_wp2
  go_ret2
  exact ⟨rfl, balloc (balloc (Below.refl _ _) _) _⟩
theorem common64_any (a b : Nat) (w : World) (ha : a ≤ 9223372036854775807) (hb : b ≤ 9223372036854775807) :
  Calls Try.prog 76 #[.int .i64 a, .int .i64 b] w fun e w' => e = .returned (.int .i64 (Nat.gcd a b)) ∧ ∃ n, w' = w.drewN n := by
 go_enter Try.func76, Try.ntmps76
 go_wp2
 go_loopw [0, 1] (fun x y wr => ∃ p q : Nat, p ≤ 9223372036854775807 ∧ q ≤ 9223372036854775807 ∧ x = .int .i64 p ∧ y = .int .i64 q ∧ Hid (Nat.gcd p q = Nat.gcd a b) ∧ Hid (∃ n, wr = w.drewN n)) (fun x y _ => (intOf y).toNat)
 case atStart => exact ⟨a, b, ha, hb, rfl, rfl, rfl, ⟨0, rfl⟩⟩
 case round =>
  obtain ⟨p, q, hp, hq, rfl, rfl, hg, hw⟩ := hrel
  by_cases h0 : 0 < q
  ·have hg' := gcd_step p q h0
   rw [hg.out] at hg'
   have HG := lH_ hg'
   clear hg' hg
   have b0 : ((q : Int) == 0) = false := by simp; omega
   have m := Nat.mod_lt p h0
   have e1 : ((p : Int)).tmod (q : Int) = ((p % q : Nat) : Int) := rfl
   go_wp2
   go_quiet (fail)
   go_wp2
   go_roundw
   case rel => exact ⟨q, p % q, hq, by omega, rfl, rfl, HG.out, by obtain ⟨n, rfl⟩ := hw.out; exact ⟨_, World.drewN_drewN _ _ _⟩⟩
   case measure => simp [intOf]; omega
  ·have hq0 : q = 0 := by omega
   subst hq0
   have hg' := hg.out
   rw [Nat.gcd_zero_right] at hg'
   have HG := lH_ hg'
   clear hg' hg
   go_wp2
   go_ret
   exact ⟨ret_int (by rw [HG.out]), hw.out⟩
def gcdI (a b : Int) : Int := ((Nat.gcd a.toNat b.toNat : Nat) : Int)
def timesOk (an ad bn bd : Int) : Bool := rightB an ad && rightB bn bd && decide ((ad * bd) / gcdI (an * bn) (ad * bd) ≤ 262144)
def timesN (an ad bn bd : Int) : Int := if timesOk an ad bn bd = true then (an * bn) / gcdI (an * bn) (ad * bd) else 0
def timesD (an ad bn bd : Int) : Int := if timesOk an ad bn bd = true then (ad * bd) / gcdI (an * bn) (ad * bd) else 0
theorem right_prod {an ad bn bd : Int} (h1 : rightB an ad = true) (h2 : rightB bn bd = true) : 0 ≤ an * bn ∧ an * bn ≤ 68719476736 ∧ 1 ≤ ad * bd ∧ ad * bd ≤ 68719476736 := by
 obtain ⟨a1, a2, a3, a4, _⟩ := rightB_true.1 h1
 obtain ⟨b1, b2, b3, b4, _⟩ := rightB_true.1 h2
 have x1 : 0 ≤ an * bn := Int.mul_nonneg a3 b3
 have x2 : an * bn ≤ 262144 * 262144 := Int.mul_le_mul (by omega) (by omega) b3 (by omega)
 have x3 : 1 * 1 ≤ ad * bd := Int.mul_le_mul a1 b1 (by omega) (by omega)
 have x4 : ad * bd ≤ 262144 * 262144 := Int.mul_le_mul (by omega) (by omega) (by omega) (by omega)
 omega
theorem gcd_facts {N D : Int} (hN : 0 ≤ N) (hD : 1 ≤ D) : 1 ≤ gcdI N D ∧ gcdI N D ≤ D ∧ 0 ≤ N / gcdI N D ∧ N / gcdI N D ≤ N ∧ 0 ≤ D / gcdI N D ∧ D / gcdI N D ≤ D := by
 have h1 : 0 < Nat.gcd N.toNat D.toNat := Nat.gcd_pos_of_pos_right _ (by omega)
 have h2 : Nat.gcd N.toNat D.toNat ≤ D.toNat := Nat.le_of_dvd (by omega) (Nat.gcd_dvd_right _ _)
 have e : gcdI N D = ((Nat.gcd N.toNat D.toNat : Nat) : Int) := rfl
 have g1 : 1 ≤ gcdI N D := by omega
 generalize gcdI N D = g at *
 exact ⟨by omega, by omega, Int.ediv_nonneg hN (by omega), Int.ediv_le_self _ hN, Int.ediv_nonneg (by omega) (by omega), Int.ediv_le_self _ (by omega)⟩
theorem times_yes (an ad bn bd P Q g x y : Int) (w : World) (h1 : rightB an ad = true) (h2 : rightB bn bd = true) (eP : an * bn = P) (eQ : ad * bd = Q) (eg : gcdI P Q = g) (ex : P / g = x) (ey : Q / g = y) (h3 : y ≤ 262144) :
  Calls Try.prog 40 #[.agg #[.int .i64 an, .int .i64 ad], .agg #[.int .i64 bn, .int .i64 bd]] w fun e w' => e = .returned (.tuple #[.agg #[.int .i64 x, .int .i64 y], .bool true]) ∧ Below w.heap.size w w' := by
 obtain ⟨p1, p2, p3, p4⟩ := right_prod h1 h2
 rw [eP] at p1 p2
 rw [eQ] at p3 p4
 obtain ⟨g1, g2, g3, g4, g5, g6⟩ := gcd_facts p1 p3
 rw [eg] at g1 g2 g3 g4 g5 g6
 have b0 : (g == 0) = false := by simp; omega
 rw [ex] at g3 g4
 rw [ey] at g5 g6
 have EX : P.tdiv g = x := by rw [Int.tdiv_eq_ediv_of_nonneg p1]; exact ex
 have EY : Q.tdiv g = y := by rw [Int.tdiv_eq_ediv_of_nonneg (by omega)]; exact ey
 have q1 : -9223372036854775808 ≤ an * bn := by omega
 have q2 : an * bn ≤ 9223372036854775807 := by omega
 have q3 : -9223372036854775808 ≤ ad * bd := by omega
 have q4 : ad * bd ≤ 9223372036854775807 := by omega
 have H1 := lH_ h1
 have H2 := lH_ h2
 have HP := lH_ eP
 have HQ := lH_ eQ
 have HG := lH_ eg
 have HEX := lH_ EX
 have HEY := lH_ EY
 have hex := lH_ ex
 have hey := lH_ ey
 clear h1 h2 eP eQ eg EX EY ex ey
 go_enter Try.func40, Try.ntmps40
 go_wp2_with fail
 refine (right_any _ _ _).mono ?_
 rintro e w1 ⟨rfl, hb1⟩
 rw [H1.out]
 obtain ⟨hc1, hf1⟩ := bcell hb1
 go_wp2_with fail
 refine (right_any _ _ _).mono ?_
 rintro e w2 ⟨rfl, hb2⟩
 rw [H2.out]
 obtain ⟨hc2, hf2⟩ := bcell hb2
 have hz1 := hb1.size
 have hz2 := hb2.size
 simp at hz1
 have B0 : Blk w2 w.heap.size #[.int .i64 an, .int .i64 ad] 48 := (((((Blk.new w #[.int .i64 an, .int .i64 ad] 48 rfl).alloc (.cells #[.int .i64 bn, .int .i64 bd] 48)).alloc (.cells #[.int .i64 0, .int .i64 0] 48)).below hb1).below hb2)
 have B1 : Blk w2 (w.heap.size + 1) #[.int .i64 bn, .int .i64 bd] 48 := (((Blk.new (w.alloc (.cells #[.int .i64 an, .int .i64 ad] 48)) #[.int .i64 bn, .int .i64 bd] 48 (by simp)).alloc (.cells #[.int .i64 0, .int .i64 0] 48)).below hb1).below hb2
 have B2 : Blk w2 (w.heap.size + 1 + 1) #[.int .i64 0, .int .i64 0] 48 := ((Blk.new ((w.alloc (.cells #[.int .i64 an, .int .i64 ad] 48)).alloc (.cells #[.int .i64 bn, .int .i64 bd] 48)) #[.int .i64 0, .int .i64 0] 48 (by simp)).below hb1).below hb2
 have HB : Below w.heap.size w w2 := bthen' (bthen' (balloc (balloc (balloc (Below.refl _ _) _) _) _) hb1) hb2
 clear hb1 hb2 hc1 hc2 hf1 hf2
 have k1 : w2.cell? ⟨w.heap.size, 0, none⟩ = some (.int .i64 an) := B0.cell 0
 have k2 : w2.cell? ⟨w.heap.size, 1, none⟩ = some (.int .i64 ad) := B0.cell 1
 have k3 : w2.cell? ⟨w.heap.size + 1, 0, none⟩ = some (.int .i64 bn) := B1.cell 0
 have k4 : w2.cell? ⟨w.heap.size + 1, 1, none⟩ = some (.int .i64 bd) := B1.cell 1
 go_wp2_with fail
 go_quiet (fail)
 go_wp2_with fail
 rw [HP.out, HQ.out]
 rw [← Int.toNat_of_nonneg p1, ← Int.toNat_of_nonneg (show 0 ≤ Q by omega)]
 refine (common64_any P.toNat Q.toNat _ (by omega) (by omega)).mono ?_
 rintro e w3 ⟨rfl, ⟨m, rfl⟩⟩
 rw [Int.toNat_of_nonneg p1, Int.toNat_of_nonneg (show 0 ≤ Q by omega)]
 rw [show ((Nat.gcd P.toNat Q.toNat : Nat) : Int) = g from HG.out]
 clear k1 k2 k3 k4 B0 B1 HG HP HQ H1 H2 q1 q2 q3 q4
 have EX := HEX.out
 have EY := HEY.out
 have ex := hex.out
 have ey := hey.out
 have z0 : ∀ k, ((w2.drewN k).alloc (Obj.cells #[.int .i64 0, .int .i64 0] 48)).cell? ⟨w2.heap.size, 0, none⟩ = some (.int .i64 0) := fun k => World.cell?_alloc_new ..
 have y0 : ∀ k, ((w2.drewN k).alloc (Obj.cells #[.int .i64 0, .int .i64 0] 48)).frozen? ⟨w2.heap.size, 0, none⟩ = false := fun k => World.frozen?_alloc_new ..
 have z1 : ∀ k, ((w2.drewN k).alloc (Obj.cells #[.int .i64 0, .int .i64 0] 48)).cell? ⟨w2.heap.size, 1, none⟩ = some (.int .i64 0) := fun k => World.cell?_alloc_new ..
 have y1 : ∀ k, ((w2.drewN k).alloc (Obj.cells #[.int .i64 0, .int .i64 0] 48)).frozen? ⟨w2.heap.size, 1, none⟩ = false := fun k => World.frozen?_alloc_new ..
 have G : ∀ k, Blk ((((w2.drewN k).alloc (Obj.cells #[.int .i64 0, .int .i64 0] 48)).setCell ⟨w2.heap.size, 0, none⟩ (.int .i64 x)).setCell ⟨w2.heap.size, 1, none⟩ (.int .i64 y)) w2.heap.size #[.int .i64 x, .int .i64 y] 48 := fun k => ((Blk.new _ _ _ rfl).put 0 _ rfl).put 1 _ rfl
 have C : ∀ k, Blk ((((w2.drewN k).alloc (Obj.cells #[.int .i64 0, .int .i64 0] 48)).setCell ⟨w2.heap.size, 0, none⟩ (.int .i64 x)).setCell ⟨w2.heap.size, 1, none⟩ (.int .i64 y)) (w.heap.size + 1 + 1) #[.int .i64 0, .int .i64 0] 48 := fun k => (((B2.drewN k).alloc _).far (Nat.ne_of_lt B2.lt) _ _).far (Nat.ne_of_lt B2.lt) _ _
 have H5 : ∀ k, Below w.heap.size w ((((w2.drewN k).alloc (Obj.cells #[.int .i64 0, .int .i64 0] 48)).setCell ⟨w2.heap.size, 0, none⟩ (.int .i64 x)).setCell ⟨w2.heap.size, 1, none⟩ (.int .i64 y)) := fun k => bset (bset (balloc (bdrewN HB k) _) HB.size _ _) HB.size _ _
 go_wp2
 go_region
 replace G := G (nq + m + 1)
 replace C := C (nq + m + 1)
 replace H5 := H5 (nq + m + 1)
 clear z0 z1 y0 y1 EX EY ex ey
 generalize World.setCell (World.setCell (World.alloc (w2.drewN (nq + m + 1)) _) _ _) _ _ = W5 at *
 generalize w2.heap.size = g5 at *
 have c0 : W5.cell? ⟨g5, 0, none⟩ = some (.int .i64 x) := G.cell 0
 have c1 : W5.cell? ⟨g5, 1, none⟩ = some (.int .i64 y) := G.cell 1
 have c2 : W5.cell? ⟨w.heap.size + 1 + 1, 0, none⟩ = some (.int .i64 0) := C.cell 0
 have c3 : W5.cell? ⟨w.heap.size + 1 + 1, 1, none⟩ = some (.int .i64 0) := C.cell 1
 have f2 : W5.frozen? ⟨w.heap.size + 1 + 1, 0, none⟩ = false := C.frozen 0
 have f3 : W5.frozen? ⟨w.heap.size + 1 + 1, 1, none⟩ = false := C.frozen 1
 go_wp2
 refine bodyPost_ret (res_ct rfl _ _ (w.heap.size + 1 + 1) 48 #[.int .i64 x, .int .i64 y] _ rfl ((C.put 0 _ rfl).put 1 _ rfl) rfl Try.underlying48 (by kernel_rfl)) rfl ?_
 exact ⟨rfl, bset (bset H5 (by omega) _ _) (by omega) _ _⟩
theorem times_no (an ad bn bd P Q g x y : Int) (w : World) (h1 : rightB an ad = true) (h2 : rightB bn bd = true) (eP : an * bn = P) (eQ : ad * bd = Q) (eg : gcdI P Q = g) (ex : P / g = x) (ey : Q / g = y) (h3 : 262144 < y) :
  Calls Try.prog 40 #[.agg #[.int .i64 an, .int .i64 ad], .agg #[.int .i64 bn, .int .i64 bd]] w fun e w' => e = .returned (.tuple #[.agg #[.int .i64 0, .int .i64 0], .bool false]) ∧ Below w.heap.size w w' := by
 obtain ⟨p1, p2, p3, p4⟩ := right_prod h1 h2
 rw [eP] at p1 p2
 rw [eQ] at p3 p4
 obtain ⟨g1, g2, g3, g4, g5, g6⟩ := gcd_facts p1 p3
 rw [eg] at g1 g2 g3 g4 g5 g6
 have b0 : (g == 0) = false := by simp; omega
 rw [ex] at g3 g4
 rw [ey] at g5 g6
 have EX : P.tdiv g = x := by rw [Int.tdiv_eq_ediv_of_nonneg p1]; exact ex
 have EY : Q.tdiv g = y := by rw [Int.tdiv_eq_ediv_of_nonneg (by omega)]; exact ey
 have q1 : -9223372036854775808 ≤ an * bn := by omega
 have q2 : an * bn ≤ 9223372036854775807 := by omega
 have q3 : -9223372036854775808 ≤ ad * bd := by omega
 have q4 : ad * bd ≤ 9223372036854775807 := by omega
 have H1 := lH_ h1
 have H2 := lH_ h2
 have HP := lH_ eP
 have HQ := lH_ eQ
 have HG := lH_ eg
 have HEX := lH_ EX
 have HEY := lH_ EY
 have hex := lH_ ex
 have hey := lH_ ey
 clear h1 h2 eP eQ eg EX EY ex ey
 go_enter Try.func40, Try.ntmps40
 go_wp2_with fail
 refine (right_any _ _ _).mono ?_
 rintro e w1 ⟨rfl, hb1⟩
 rw [H1.out]
 obtain ⟨hc1, hf1⟩ := bcell hb1
 go_wp2_with fail
 refine (right_any _ _ _).mono ?_
 rintro e w2 ⟨rfl, hb2⟩
 rw [H2.out]
 obtain ⟨hc2, hf2⟩ := bcell hb2
 have hz1 := hb1.size
 have hz2 := hb2.size
 simp at hz1
 have B0 : Blk w2 w.heap.size #[.int .i64 an, .int .i64 ad] 48 := (((((Blk.new w #[.int .i64 an, .int .i64 ad] 48 rfl).alloc (.cells #[.int .i64 bn, .int .i64 bd] 48)).alloc (.cells #[.int .i64 0, .int .i64 0] 48)).below hb1).below hb2)
 have B1 : Blk w2 (w.heap.size + 1) #[.int .i64 bn, .int .i64 bd] 48 := (((Blk.new (w.alloc (.cells #[.int .i64 an, .int .i64 ad] 48)) #[.int .i64 bn, .int .i64 bd] 48 (by simp)).alloc (.cells #[.int .i64 0, .int .i64 0] 48)).below hb1).below hb2
 have B2 : Blk w2 (w.heap.size + 1 + 1) #[.int .i64 0, .int .i64 0] 48 := ((Blk.new ((w.alloc (.cells #[.int .i64 an, .int .i64 ad] 48)).alloc (.cells #[.int .i64 bn, .int .i64 bd] 48)) #[.int .i64 0, .int .i64 0] 48 (by simp)).below hb1).below hb2
 have HB : Below w.heap.size w w2 := bthen' (bthen' (balloc (balloc (balloc (Below.refl _ _) _) _) _) hb1) hb2
 clear hb1 hb2 hc1 hc2 hf1 hf2
 have k1 : w2.cell? ⟨w.heap.size, 0, none⟩ = some (.int .i64 an) := B0.cell 0
 have k2 : w2.cell? ⟨w.heap.size, 1, none⟩ = some (.int .i64 ad) := B0.cell 1
 have k3 : w2.cell? ⟨w.heap.size + 1, 0, none⟩ = some (.int .i64 bn) := B1.cell 0
 have k4 : w2.cell? ⟨w.heap.size + 1, 1, none⟩ = some (.int .i64 bd) := B1.cell 1
 go_wp2_with fail
 go_quiet (fail)
 go_wp2_with fail
 rw [HP.out, HQ.out]
 rw [← Int.toNat_of_nonneg p1, ← Int.toNat_of_nonneg (show 0 ≤ Q by omega)]
 refine (common64_any P.toNat Q.toNat _ (by omega) (by omega)).mono ?_
 rintro e w3 ⟨rfl, ⟨m, rfl⟩⟩
 rw [Int.toNat_of_nonneg p1, Int.toNat_of_nonneg (show 0 ≤ Q by omega)]
 rw [show ((Nat.gcd P.toNat Q.toNat : Nat) : Int) = g from HG.out]
 clear k1 k2 k3 k4 B0 B1 HG HP HQ H1 H2 q1 q2 q3 q4
 have EX := HEX.out
 have EY := HEY.out
 have ex := hex.out
 have ey := hey.out
 have z0 : ∀ k, ((w2.drewN k).alloc (Obj.cells #[.int .i64 0, .int .i64 0] 48)).cell? ⟨w2.heap.size, 0, none⟩ = some (.int .i64 0) := fun k => World.cell?_alloc_new ..
 have y0 : ∀ k, ((w2.drewN k).alloc (Obj.cells #[.int .i64 0, .int .i64 0] 48)).frozen? ⟨w2.heap.size, 0, none⟩ = false := fun k => World.frozen?_alloc_new ..
 have z1 : ∀ k, ((w2.drewN k).alloc (Obj.cells #[.int .i64 0, .int .i64 0] 48)).cell? ⟨w2.heap.size, 1, none⟩ = some (.int .i64 0) := fun k => World.cell?_alloc_new ..
 have y1 : ∀ k, ((w2.drewN k).alloc (Obj.cells #[.int .i64 0, .int .i64 0] 48)).frozen? ⟨w2.heap.size, 1, none⟩ = false := fun k => World.frozen?_alloc_new ..
 have G : ∀ k, Blk ((((w2.drewN k).alloc (Obj.cells #[.int .i64 0, .int .i64 0] 48)).setCell ⟨w2.heap.size, 0, none⟩ (.int .i64 x)).setCell ⟨w2.heap.size, 1, none⟩ (.int .i64 y)) w2.heap.size #[.int .i64 x, .int .i64 y] 48 := fun k => ((Blk.new _ _ _ rfl).put 0 _ rfl).put 1 _ rfl
 have C : ∀ k, Blk ((((w2.drewN k).alloc (Obj.cells #[.int .i64 0, .int .i64 0] 48)).setCell ⟨w2.heap.size, 0, none⟩ (.int .i64 x)).setCell ⟨w2.heap.size, 1, none⟩ (.int .i64 y)) (w.heap.size + 1 + 1) #[.int .i64 0, .int .i64 0] 48 := fun k => (((B2.drewN k).alloc _).far (Nat.ne_of_lt B2.lt) _ _).far (Nat.ne_of_lt B2.lt) _ _
 have H5 : ∀ k, Below w.heap.size w ((((w2.drewN k).alloc (Obj.cells #[.int .i64 0, .int .i64 0] 48)).setCell ⟨w2.heap.size, 0, none⟩ (.int .i64 x)).setCell ⟨w2.heap.size, 1, none⟩ (.int .i64 y)) := fun k => bset (bset (balloc (bdrewN HB k) _) HB.size _ _) HB.size _ _
 go_wp2
 go_region
 replace G := G (nq + m + 1)
 replace C := C (nq + m + 1)
 replace H5 := H5 (nq + m + 1)
 clear z0 z1 y0 y1 EX EY ex ey
 generalize World.setCell (World.setCell (World.alloc (w2.drewN (nq + m + 1)) _) _ _) _ _ = W5 at *
 generalize w2.heap.size = g5 at *
 have c0 : W5.cell? ⟨g5, 0, none⟩ = some (.int .i64 x) := G.cell 0
 have c1 : W5.cell? ⟨g5, 1, none⟩ = some (.int .i64 y) := G.cell 1
 have c2 : W5.cell? ⟨w.heap.size + 1 + 1, 0, none⟩ = some (.int .i64 0) := C.cell 0
 have c3 : W5.cell? ⟨w.heap.size + 1 + 1, 1, none⟩ = some (.int .i64 0) := C.cell 1
 have f2 : W5.frozen? ⟨w.heap.size + 1 + 1, 0, none⟩ = false := C.frozen 0
 have f3 : W5.frozen? ⟨w.heap.size + 1 + 1, 1, none⟩ = false := C.frozen 1
 go_wp2
 refine bodyPost_ret (res_ct rfl _ _ (w.heap.size + 1 + 1) 48 #[.int .i64 0, .int .i64 0] _ rfl ((C.put 0 _ rfl).put 1 _ rfl) rfl Try.underlying48 (by kernel_rfl)) rfl ?_
 exact ⟨rfl, bset (bset H5 (by omega) _ _) (by omega) _ _⟩
theorem times_bad1 (an ad bn bd : Int) (w : World) (h1 : rightB an ad = false) :
  Calls Try.prog 40 #[.agg #[.int .i64 an, .int .i64 ad], .agg #[.int .i64 bn, .int .i64 bd]] w fun e w' => e = .returned (.tuple #[.agg #[.int .i64 0, .int .i64 0], .bool false]) ∧ Below w.heap.size w w' := by
 have H1 := lH_ h1
 clear h1
 go_enter Try.func40, Try.ntmps40
 go_wp2_with fail
 refine (right_any _ _ _).mono ?_
 rintro e w1 ⟨rfl, hb1⟩
 rw [H1.out]
 have B2 : Blk w1 (w.heap.size + 1 + 1) #[.int .i64 0, .int .i64 0] 48 := (Blk.new ((w.alloc (.cells #[.int .i64 an, .int .i64 ad] 48)).alloc (.cells #[.int .i64 bn, .int .i64 bd] 48)) #[.int .i64 0, .int .i64 0] 48 (by simp)).below hb1
 have HB : Below w.heap.size w w1 := bthen' (balloc (balloc (balloc (Below.refl _ _) _) _) _) hb1
 clear hb1
 have c2 : w1.cell? ⟨w.heap.size + 1 + 1, 0, none⟩ = some (.int .i64 0) := B2.cell 0
 have c3 : w1.cell? ⟨w.heap.size + 1 + 1, 1, none⟩ = some (.int .i64 0) := B2.cell 1
 have f2 : w1.frozen? ⟨w.heap.size + 1 + 1, 0, none⟩ = false := B2.frozen 0
 have f3 : w1.frozen? ⟨w.heap.size + 1 + 1, 1, none⟩ = false := B2.frozen 1
 go_wp2
 refine bodyPost_ret (res_ct rfl _ _ (w.heap.size + 1 + 1) 48 #[.int .i64 0, .int .i64 0] _ rfl ((B2.put 0 _ rfl).put 1 _ rfl) rfl Try.underlying48 (by kernel_rfl)) rfl ?_
 exact ⟨rfl, bset (bset HB (by omega) _ _) (by omega) _ _⟩
theorem times_bad2 (an ad bn bd : Int) (w : World) (h1 : rightB an ad = true) (h2 : rightB bn bd = false) :
  Calls Try.prog 40 #[.agg #[.int .i64 an, .int .i64 ad], .agg #[.int .i64 bn, .int .i64 bd]] w fun e w' => e = .returned (.tuple #[.agg #[.int .i64 0, .int .i64 0], .bool false]) ∧ Below w.heap.size w w' := by
 have H1 := lH_ h1
 have H2 := lH_ h2
 clear h1 h2
 go_enter Try.func40, Try.ntmps40
 go_wp2_with fail
 refine (right_any _ _ _).mono ?_
 rintro e w1 ⟨rfl, hb1⟩
 rw [H1.out]
 have B1 : Blk w1 (w.heap.size + 1) #[.int .i64 bn, .int .i64 bd] 48 := ((Blk.new (w.alloc (.cells #[.int .i64 an, .int .i64 ad] 48)) #[.int .i64 bn, .int .i64 bd] 48 (by simp)).alloc (.cells #[.int .i64 0, .int .i64 0] 48)).below hb1
 have B2 : Blk w1 (w.heap.size + 1 + 1) #[.int .i64 0, .int .i64 0] 48 := (Blk.new ((w.alloc (.cells #[.int .i64 an, .int .i64 ad] 48)).alloc (.cells #[.int .i64 bn, .int .i64 bd] 48)) #[.int .i64 0, .int .i64 0] 48 (by simp)).below hb1
 have HB : Below w.heap.size w w1 := bthen' (balloc (balloc (balloc (Below.refl _ _) _) _) _) hb1
 clear hb1
 have k3 : w1.cell? ⟨w.heap.size + 1, 0, none⟩ = some (.int .i64 bn) := B1.cell 0
 have k4 : w1.cell? ⟨w.heap.size + 1, 1, none⟩ = some (.int .i64 bd) := B1.cell 1
 go_wp2_with fail
 refine (right_any _ _ _).mono ?_
 rintro e w2 ⟨rfl, hb2⟩
 rw [H2.out]
 clear k3 k4
 have B2 := B2.below hb2
 have HB : Below w.heap.size w w2 := bthen' HB hb2
 clear hb2
 have c2 : w2.cell? ⟨w.heap.size + 1 + 1, 0, none⟩ = some (.int .i64 0) := B2.cell 0
 have c3 : w2.cell? ⟨w.heap.size + 1 + 1, 1, none⟩ = some (.int .i64 0) := B2.cell 1
 have f2 : w2.frozen? ⟨w.heap.size + 1 + 1, 0, none⟩ = false := B2.frozen 0
 have f3 : w2.frozen? ⟨w.heap.size + 1 + 1, 1, none⟩ = false := B2.frozen 1
 go_wp2
 refine bodyPost_ret (res_ct rfl _ _ (w.heap.size + 1 + 1) 48 #[.int .i64 0, .int .i64 0] _ rfl ((B2.put 0 _ rfl).put 1 _ rfl) rfl Try.underlying48 (by kernel_rfl)) rfl ?_
 exact ⟨rfl, bset (bset HB (by omega) _ _) (by omega) _ _⟩
theorem times_any (an ad bn bd : Int) (w : World) :
  Calls Try.prog 40 #[.agg #[.int .i64 an, .int .i64 ad], .agg #[.int .i64 bn, .int .i64 bd]] w fun e w' => e = .returned (.tuple #[.agg #[.int .i64 (timesN an ad bn bd), .int .i64 (timesD an ad bn bd)], .bool (timesOk an ad bn bd)]) ∧ Below w.heap.size w w' := by
 by_cases h1 : rightB an ad = true
 ·by_cases h2 : rightB bn bd = true
  ·by_cases h3 : (ad * bd) / gcdI (an * bn) (ad * bd) ≤ 262144
   ·have hok : timesOk an ad bn bd = true := by simp [timesOk, h1, h2, h3]
    rw [show timesN an ad bn bd = (an * bn) / gcdI (an * bn) (ad * bd) by simp [timesN, hok], show timesD an ad bn bd = (ad * bd) / gcdI (an * bn) (ad * bd) by simp [timesD, hok], hok]
    exact times_yes _ _ _ _ _ _ _ _ _ w h1 h2 rfl rfl rfl rfl rfl h3
   ·have hok : timesOk an ad bn bd = false := by simp [timesOk, h1, h2]; omega
    rw [show timesN an ad bn bd = 0 by simp [timesN, hok], show timesD an ad bn bd = 0 by simp [timesD, hok], hok]
    exact times_no _ _ _ _ _ _ _ _ _ w h1 h2 rfl rfl rfl rfl rfl (by omega)
  ·have h2 : rightB bn bd = false := by simpa using h2
   have hok : timesOk an ad bn bd = false := by simp [timesOk, h1, h2]
   rw [show timesN an ad bn bd = 0 by simp [timesN, hok], show timesD an ad bn bd = 0 by simp [timesD, hok], hok]
   exact times_bad2 _ _ _ _ w h1 h2
 ·have h1 : rightB an ad = false := by simpa using h1
  have hok : timesOk an ad bn bd = false := by simp [timesOk, h1]
  rw [show timesN an ad bn bd = 0 by simp [timesN, hok], show timesD an ad bn bd = 0 by simp [timesD, hok], hok]
  exact times_bad1 _ _ _ _ w h1
/- The package axes: coordinates, tents, regions, strengths. -/
def coordB (n : Int) : Bool := decide (-64 ≤ n ∧ n ≤ 64)
def tentB (t : I3) : Bool := coordB t.a && (decide (t.a ≤ t.b) && (decide (t.b ≤ t.c) && (coordB t.c && (decide (t.b = 0) || (decide (0 ≤ t.a) || decide (t.c ≤ 0))))))
def regB (r : List I3) (n : Int) : Bool := decide (0 ≤ n) && (decide (n ≤ 3) && (decide ((r.length : Int) = n) && !r.any fun t => !tentB t))
def coordsB (at_ : List Int) : Bool := decide ((at_.length : Int) ≤ 3) && !at_.any fun n => !coordB n
theorem coord_any (n : Int) (w : World) : Calls Try.prog 74 #[.int .i64 n] w fun e w' => e = .returned (.bool (coordB n)) ∧ w = w' := by
 by_cases h1 : -64 ≤ n
 ·have d1 : decide (-64 ≤ n) = true := decide_eq_true h1
  have E : coordB n = decide (n ≤ 64) := by unfold coordB; simp [h1]
  rw [E]
  clear E h1
  go_enter Try.func74, Try.ntmps74
  go_wp2
  go_ret
  exact ⟨rfl, rfl⟩
 ·have d1 : decide (-64 ≤ n) = false := decide_eq_false h1
  have E : coordB n = false := decide_eq_false (fun h => h1 h.1)
  rw [E]
  clear E h1
  go_enter Try.func74, Try.ntmps74
  go_wp2
  go_ret
  exact ⟨rfl, rfl⟩
theorem tent_any (t : I3) (w : World) : Calls Try.prog 70 #[.agg #[.int .i64 t.a, .int .i64 t.b, .int .i64 t.c]] w fun e w' => e = .returned (.bool (tentB t)) ∧ Below w.heap.size w w' := by
 obtain ⟨a, b, c⟩ := t
 have N0 := lH_ (coord_any a)
 have N2 := lH_ (coord_any c)
 have HE : Hid (tentB ⟨a, b, c⟩ = (coordB a && (decide (a ≤ b) && (decide (b ≤ c) && (coordB c && (decide (b = 0) || (decide (0 ≤ a) || decide (c ≤ 0)))))))) := lH_ rfl
 generalize tentB ⟨a, b, c⟩ = r at *
 generalize coordB a = ka at *
 generalize coordB c = kc at *
 obtain ⟨q1, d1⟩ : ∃ q, decide (a ≤ b) = q := ⟨_, rfl⟩
 obtain ⟨q2, d2⟩ : ∃ q, decide (b ≤ c) = q := ⟨_, rfl⟩
 obtain ⟨q3, d3'⟩ : ∃ q, decide (b = 0) = q := ⟨_, rfl⟩
 obtain ⟨q4, d4⟩ : ∃ q, decide (0 ≤ a) = q := ⟨_, rfl⟩
 obtain ⟨q5, d5⟩ : ∃ q, decide (c ≤ 0) = q := ⟨_, rfl⟩
 have d3 : (b == 0) = q3 := by rw [← d3']; rfl
 rw [d1, d2, d3', d4, d5] at HE
 clear d3'
 have HB := lH_ (balloc (Below.refl w.heap.size w) (.cells #[.int .i64 a, .int .i64 b, .int .i64 c] 92))
 dsimp only
 cases ka
 ·go_enter Try.func70, Try.ntmps70
  go_wp2_with fail
  refine (N0.out _).mono ?_
  rintro e w' ⟨rfl, rfl⟩
  go_wp2_with fail
  go_ret
  exact ⟨ret_bool HE.out.symm, HB.out⟩
 ·cases q1
  ·go_enter Try.func70, Try.ntmps70
   go_wp2_with fail
   refine (N0.out _).mono ?_
   rintro e w' ⟨rfl, rfl⟩
   go_wp2_with fail
   go_ret
   exact ⟨ret_bool HE.out.symm, HB.out⟩
  ·cases q2
   ·go_enter Try.func70, Try.ntmps70
    go_wp2_with fail
    refine (N0.out _).mono ?_
    rintro e w' ⟨rfl, rfl⟩
    go_wp2_with fail
    go_ret
    exact ⟨ret_bool HE.out.symm, HB.out⟩
   ·cases kc
    ·go_enter Try.func70, Try.ntmps70
     go_wp2_with fail
     refine (N0.out _).mono ?_
     rintro e w' ⟨rfl, rfl⟩
     go_wp2_with fail
     refine (N2.out _).mono ?_
     rintro e w' ⟨rfl, rfl⟩
     go_wp2_with fail
     go_ret
     exact ⟨ret_bool HE.out.symm, HB.out⟩
    ·cases q3
     ·cases q4
      ·go_enter Try.func70, Try.ntmps70
       go_wp2_with fail
       refine (N0.out _).mono ?_
       rintro e w' ⟨rfl, rfl⟩
       go_wp2_with fail
       refine (N2.out _).mono ?_
       rintro e w' ⟨rfl, rfl⟩
       go_wp2_with fail
       go_ret
       exact ⟨ret_bool HE.out.symm, HB.out⟩
      ·go_enter Try.func70, Try.ntmps70
       go_wp2_with fail
       refine (N0.out _).mono ?_
       rintro e w' ⟨rfl, rfl⟩
       go_wp2_with fail
       refine (N2.out _).mono ?_
       rintro e w' ⟨rfl, rfl⟩
       go_wp2_with fail
       go_ret
       exact ⟨ret_bool HE.out.symm, HB.out⟩
     ·go_enter Try.func70, Try.ntmps70
      go_wp2_with fail
      refine (N0.out _).mono ?_
      rintro e w' ⟨rfl, rfl⟩
      go_wp2_with fail
      refine (N2.out _).mono ?_
      rintro e w' ⟨rfl, rfl⟩
      go_wp2_with fail
      go_ret
      exact ⟨ret_bool HE.out.symm, HB.out⟩
theorem tentNot_any (t : I3) (w : World) : Calls Try.prog 69 #[.agg #[.int .i64 t.a, .int .i64 t.b, .int .i64 t.c]] w fun e w' => e = .returned (.bool (!tentB t)) ∧ Below w.heap.size w w' := by
 obtain ⟨a, b, c⟩ := t
 dsimp only
 have HB := lH_ (balloc (Below.refl w.heap.size w) (.cells #[.int .i64 a, .int .i64 b, .int .i64 c] 92))
 go_enter Try.func69, Try.ntmps69
 go_wp2_with fail
 refine (tent_any ⟨a, b, c⟩ _).mono ?_
 rintro e w' ⟨rfl, hb⟩
 have HB1 := lH_ (bthen' HB.out hb)
 clear hb
 go_wp2_with fail
 go_ret
 exact ⟨rfl, HB1.out⟩
theorem coordNot_any (n : Int) (w : World) : Calls Try.prog 73 #[.int .i64 n] w fun e w' => e = .returned (.bool (!coordB n)) ∧ Below w.heap.size w w' := by
 go_enter Try.func73, Try.ntmps73
 go_wp2_with fail
 refine (coord_any n _).mono ?_
 rintro e w' ⟨rfl, rfl⟩
 go_wp2_with fail
 go_ret
 exact ⟨rfl, Below.refl _ _⟩
theorem coords_any (l : List Int) (A : Option Addr) (c : Nat) (w : World) (hC : Kd.C kI w A l.length l) : Calls Try.prog 38 #[.slice A l.length c] w fun e w' => e = .returned (.bool (coordsB l)) ∧ Below w.heap.size w w' := by
 have HC := lH_ hC
 have hm : l.length ≤ 9223372036854775807 := hC.2.1
 have HE : Hid (coordsB l = (decide ((l.length : Int) ≤ 3) && !l.any fun n => !coordB n)) := lH_ rfl
 generalize coordsB l = r at *
 clear hC
 obtain ⟨q, d1⟩ : ∃ q, decide ((l.length : Int) ≤ 3) = q := ⟨_, rfl⟩
 rw [d1] at HE
 cases q
 ·go_enter Try.func38, Try.ntmps38
  go_wp2_with fail
  go_ret
  exact ⟨ret_bool HE.out.symm, Below.refl _ _⟩
 ·go_enter Try.func38, Try.ntmps38
  go_wp2_with fail
  refine (any_coord (d := kI) 0 (fun n => !coordB n) l A c w rfl HC.out (fun j _ c0 hk w1 _ => by
   have hk' : [c0] = [Value.int .i64 (l.getD j 0)] := hk
   obtain rfl : c0 = _ := List.head_eq_of_cons_eq hk'
   exact coordNot_any _ w1)).mono ?_
  rintro e w' ⟨rfl, hb⟩
  have HB := lH_ hb
  clear hb
  go_wp2_with fail
  go_ret
  exact ⟨ret_bool (by rw [HE.out]; rfl), HB.out⟩
theorem reg_any (r : List I3) (n : Int) (A : Option Addr) (c : Nat) (w : World) (hC : Kd.C kI3 w A r.length r) : Calls Try.prog 37 #[.agg #[.slice A r.length c], .int .i64 n] w fun e w' => e = .returned (.bool (regB r n)) ∧ Below w.heap.size w w' := by
 have HC := lH_ hC
 have hm : r.length ≤ 9223372036854775807 := hC.2.1
 have HE : Hid (regB r n = (decide (0 ≤ n) && (decide (n ≤ 3) && (decide ((r.length : Int) = n) && !r.any fun t => !tentB t)))) := lH_ rfl
 generalize regB r n = v at *
 clear hC
 obtain ⟨q1, d1⟩ : ∃ q, decide (0 ≤ n) = q := ⟨_, rfl⟩
 obtain ⟨q2, d2⟩ : ∃ q, decide (n ≤ 3) = q := ⟨_, rfl⟩
 obtain ⟨q3, d3'⟩ : ∃ q, decide ((r.length : Int) = n) = q := ⟨_, rfl⟩
 have d3 : ((r.length : Int) == n) = q3 := by rw [← d3']; rfl
 rw [d1, d2, d3'] at HE
 clear d3'
 obtain ⟨w1, g, hw, hg, B, HB, _⟩ := new_box w #[.slice A r.length c] 46
 have HC1 := lH_ (Kd.C_below HC.out HB.out)
 have hc0 : w1.cell? ⟨g, 0, none⟩ = some (.slice A r.length c) := B.out.cell 0
 cases q1
 ·go_enter Try.func37, Try.ntmps37
  go_upto_region 1 with fail
  clear hw hg
  go_wp2_with fail
  go_ret
  exact ⟨ret_bool HE.out.symm, HB.out⟩
 ·cases q2
  ·go_enter Try.func37, Try.ntmps37
   go_upto_region 1 with fail
   clear hw hg
   go_wp2_with fail
   go_ret
   exact ⟨ret_bool HE.out.symm, HB.out⟩
  ·cases q3
   ·go_enter Try.func37, Try.ntmps37
    go_upto_region 1 with fail
    clear hw hg
    go_wp2_with fail
    go_ret
    exact ⟨ret_bool HE.out.symm, HB.out⟩
   ·go_enter Try.func37, Try.ntmps37
    go_upto_region 1 with fail
    clear hw hg
    go_wp2_with fail
    refine (any_tent (d := kI3) zI3 (fun t => !tentB t) r A c w1 rfl HC1.out (fun j _ c0 c1 c2 hk w2 _ => by
     have hk' := kI3_open hk
     simp only [List.cons.injEq, and_true] at hk'
     obtain ⟨rfl, rfl, rfl⟩ := hk'
     exact tentNot_any _ w2)).mono ?_
    rintro e w' ⟨rfl, hb⟩
    have HB1 := lH_ (bthen' HB.out hb)
    clear hb
    go_wp2_with fail
    go_ret
    exact ⟨ret_bool (by rw [HE.out]; rfl), HB1.out⟩
theorem divisor_any (a b : Nat) (w : World) (ha : a ≤ 9223372036854775807) (hb : b ≤ 9223372036854775807) :
  Calls Try.prog 77 #[.int .i64 a, .int .i64 b] w fun e w' => e = .returned (.int .i64 (Nat.gcd a b)) ∧ ∃ n, w' = w.drewN n := by
 go_enter Try.func77, Try.ntmps77
 go_wp2
 go_loopw [0, 1] (fun x y wr => ∃ p q : Nat, p ≤ 9223372036854775807 ∧ q ≤ 9223372036854775807 ∧ x = .int .i64 p ∧ y = .int .i64 q ∧ Hid (Nat.gcd p q = Nat.gcd a b) ∧ Hid (∃ n, wr = w.drewN n)) (fun x y _ => (intOf y).toNat)
 case atStart => exact ⟨a, b, ha, hb, rfl, rfl, rfl, ⟨0, rfl⟩⟩
 case round =>
  obtain ⟨p, q, hp, hq, rfl, rfl, hg, hw⟩ := hrel
  by_cases h0 : 0 < q
  ·have hg' := gcd_step p q h0
   rw [hg.out] at hg'
   have HG := lH_ hg'
   clear hg' hg
   have b0 : ((q : Int) == 0) = false := by simp; omega
   have m := Nat.mod_lt p h0
   have e1 : ((p : Int)).tmod (q : Int) = ((p % q : Nat) : Int) := rfl
   go_wp2
   go_quiet (fail)
   go_wp2
   go_roundw
   case rel => exact ⟨q, p % q, hq, by omega, rfl, rfl, HG.out, by obtain ⟨n, rfl⟩ := hw.out; exact ⟨_, World.drewN_drewN _ _ _⟩⟩
   case measure => simp [intOf]; omega
  ·have hq0 : q = 0 := by omega
   subst hq0
   have hg' := hg.out
   rw [Nat.gcd_zero_right] at hg'
   have HG := lH_ hg'
   clear hg' hg
   go_wp2
   go_ret
   exact ⟨ret_int (by rw [HG.out]), hw.out⟩
def stN (t : I3) (n : Int) : Int := if t.b = 0 ∨ n = t.b then 1 else if n ≤ t.a ∨ t.c ≤ n then 0 else if n < t.b then n - t.a else t.c - n
def stD (t : I3) (n : Int) : Int := if t.b = 0 ∨ n = t.b then 1 else if n ≤ t.a ∨ t.c ≤ n then 1 else if n < t.b then t.b - t.a else t.c - t.b
def strN (t : I3) (n : Int) : Int := stN t n / ((Nat.gcd (stN t n).toNat (stD t n).toNat : Nat) : Int)
def strD (t : I3) (n : Int) : Int := stD t n / ((Nat.gcd (stN t n).toNat (stD t n).toNat : Nat) : Int)
theorem st_b {t : I3} {n : Int} (ht : tentB t = true) (hn : coordB n = true) : 0 ≤ stN t n ∧ stN t n ≤ stD t n ∧ 1 ≤ stD t n ∧ stD t n ≤ 128 := by
 unfold tentB at ht
 simp only [Bool.and_eq_true, decide_eq_true_eq, Bool.or_eq_true] at ht
 unfold coordB at ht hn
 rw [decide_eq_true_eq] at ht hn
 simp only [decide_eq_true_eq] at ht
 unfold stN stD
 split
 ·omega
 ·split
  ·omega
  ·split <;> omega

end Go.Proofs.Ythpccdhmppbkfaa