/- Push of the queue of package lines. -/
import Derived.Test.YtemcbaacefjfnaaLnC
import Derived.OwnWalk
set_option linter.unusedVariables false
set_option linter.unusedSimpArgs false
namespace Go.Proofs.Ytemcbaacefjfnaa
open Go.RowKit Go.Proofs.YtemcbaacefjfnaaW.PrintWords Go.Proofs.YtemcbaacefjfnaaW.PrintLast

/-- only the blocks of s have changed; new ones may have come -/
structure Touch (w w' : World) (s : Nat → Prop) : Prop where
  os : w'.os = w.os
  tape : w'.tape = w.tape
  output : w'.output = w.output
  size : w.heap.size ≤ w'.heap.size
  block : ∀ k, k < w.heap.size → ¬ s k → w'.heap[k]? = w.heap[k]?
theorem Touch.refl (w : World) (s : Nat → Prop) : Touch w w s := ⟨rfl, rfl, rfl, Nat.le_refl _, fun _ _ _ => rfl⟩
theorem Touch.drewN (w : World) (n : Nat) (s : Nat → Prop) : Touch w (w.drewN n) s := ⟨rfl, rfl, rfl, Nat.le_refl _, fun _ _ _ => rfl⟩
theorem Touch.trans {a b c : World} {s : Nat → Prop} (h : Touch a b s) (k : Touch b c s) : Touch a c s :=
  ⟨k.os.trans h.os, k.tape.trans h.tape, k.output.trans h.output, Nat.le_trans h.size k.size, fun i hi hr => (k.block i (Nat.lt_of_lt_of_le hi h.size) hr).trans (h.block i hi hr)⟩
/-- the second step may touch what the first one has made -/
theorem Touch.then {a b c : World} {s t : Nat → Prop} (h : Touch a b s) (k : Touch b c t) (ht : ∀ i, i < a.heap.size → t i → s i) : Touch a c s :=
  ⟨k.os.trans h.os, k.tape.trans h.tape, k.output.trans h.output, Nat.le_trans h.size k.size, fun i hi hr => (k.block i (Nat.lt_of_lt_of_le hi h.size) (fun h2 => hr (ht i hi h2))).trans (h.block i hi hr)⟩
theorem Touch.weaken {a b : World} {s t : Nat → Prop} (h : Touch a b s) (ht : ∀ i, i < a.heap.size → s i → t i) : Touch a b t :=
  ⟨h.os, h.tape, h.output, h.size, fun i hi hr => h.block i hi (fun h2 => hr (ht i hi h2))⟩
theorem Touch.of_grownBy {a b : World} {r : Option Nat} (h : a.grownBy b r) : Touch a b (fun k => r = some k) := ⟨h.os, h.tape, h.output, h.size, fun i hi hr => h.block i hi (fun e => hr e.symm)⟩
theorem Touch.of_below {a b : World} {s : Nat → Prop} (h : Below a.heap.size a b) : Touch a b s := ⟨h.os, h.tape, h.output, h.size, fun i hi _ => h.block i hi⟩
theorem Touch.alloc (w : World) (o : Obj) (s : Nat → Prop) : Touch w (w.alloc o) s := Touch.of_below (balloc (Below.refl _ w) o)
theorem Touch.setCell (w : World) (g j : Nat) (v : Value) (s : Nat → Prop) (h : s g) : Touch w (w.setCell ⟨g, j, none⟩ v) s :=
  ⟨rfl, rfl, rfl, by simp, fun k hk hr => Below.heap_setCell w ⟨g, j, none⟩ v k (fun e => hr (e ▸ h))⟩
theorem Touch.below {a b : World} {s : Nat → Prop} {B : Nat} (h : Touch a b s) (hB : B ≤ a.heap.size) (hs : ∀ k, s k → B ≤ k) : Below B a b :=
  ⟨h.os, h.tape, h.output, h.size, fun k hk => h.block k (by omega) (fun e => by have := hs k e; omega)⟩
theorem Touch.blk {a b : World} {s : Nat → Prop} {g : Nat} {cs : Array Value} {t : TypeId} (h : Touch a b s) (hb : Blk a g cs t) (hn : ¬ s g) : Blk b g cs t := (h.block g hb.lt hn).trans hb
theorem _root_.Go.World.grownBy.put {w w' : World} {v : Value} (h : w.grownBy w' v.ownBlock) (q : Nat) (u : Value) : Touch w (w'.setCell ⟨q, 0, none⟩ u) (fun k => k = q ∨ v.ownBlock = some k) :=
  (((Touch.of_grownBy h).weaken (fun _ _ e => .inr e)).trans (Touch.setCell _ _ _ _ _ (.inl rfl)))

/-- the block s' is s, or has been made since w -/
def Fresh (w : World) (s s' : Option Nat) : Prop := s' = s ∨ ∃ k, s' = some k ∧ w.heap.size ≤ k
theorem Fresh.older {w w1 : World} {s s' : Option Nat} (h : Fresh w1 s s') (hs : w.heap.size ≤ w1.heap.size) : Fresh w s s' := by
  rcases h with h | ⟨k, h, h2⟩
  · exact .inl h
  · exact .inr ⟨k, h, Nat.le_trans hs h2⟩
theorem Fresh.ne {w : World} {s s' : Option Nat} {q : Nat} (h : Fresh w s s') (hs : some q ≠ s) (hq : q < w.heap.size) : s' ≠ some q := by
  rcases h with h | ⟨k, h, h2⟩
  · rw [h]; exact fun e => hs e.symm
  · rw [h]; intro e; simp at e; omega
theorem Fresh.trans {a b : World} {s t u : Option Nat} (h : Fresh a s t) (k : Fresh b t u) (hs : a.heap.size ≤ b.heap.size) : Fresh a s u := by
  rcases k.older hs with e | e
  · subst e; exact h
  · exact .inr e

/-- the queue in block q holds the copies xs; its row is block s -/
def QS (w : World) (q : Nat) (s : Option Nat) (xs : List Wt) : Prop := ∃ v, v.ownBlock = s ∧ Blk w q #[v] 65 ∧ w.ownsRow 0 72 5 v xs.length (flat xs) ∧ s ≠ some q ∧ xs.length ≤ 1000000
theorem QS.mk' {w : World} {q : Nat} {v : Value} {xs : List Wt} {x : Wt} (h1 : Blk w q #[v] 65) (h2 : w.ownsRow 0 72 5 v (xs.length + 1) (flat xs ++ x.cells)) (h3 : v.ownBlock ≠ some q) (h4 : xs.length < 1000000) : QS w q v.ownBlock (xs ++ [x]) :=
  ⟨v, rfl, h1, by simpa [flat] using h2, h3, by simp; omega⟩
theorem QS.qw {w : World} {q : Nat} {s : Option Nat} {xs : List Wt} (h : QS w q s xs) (h0 : 0 < xs.length) : ∃ g cap, s = some g ∧ QW w q g cap xs := by
  obtain ⟨v, rfl, hC, ⟨hl, hO⟩, hn, hf⟩ := h
  rcases hO with ⟨_, e⟩ | ⟨g, cap, cur, rfl, _, hg, h1, h2, h3, h4⟩
  · omega
  · exact ⟨g, cap, rfl, fun e => hn (by rw [← e]; rfl), hf, hC, cur, hg, h1, h2, h3, h4⟩
theorem QW.qs {w : World} {q g cap : Nat} {xs : List Wt} (h : QW w q g cap xs) : QS w q (some g) xs := by
  obtain ⟨cur, h1, h2, h3, h4, h5⟩ := h.row
  exact ⟨_, rfl, h.cell, ⟨flat_length xs, .inr ⟨g, cap, cur, rfl, Nat.zero_le _, h1, h2, h3, h4, h5⟩⟩, fun e => h.ne (Option.some.inj e), h.few⟩
theorem QS.touch {w w' : World} {q : Nat} {s : Option Nat} {xs : List Wt} {t : Nat → Prop} (h : QS w q s xs) (k : Touch w w' t) (h1 : ¬ t q) (h2 : ∀ g, s = some g → ¬ t g) : QS w' q s xs := by
  obtain ⟨v, rfl, hC, ⟨hl, hO⟩, hn, hf⟩ := h
  refine ⟨v, rfl, k.blk hC h1, ⟨hl, ?_⟩, hn, hf⟩
  rcases hO with e | ⟨g, cap, cur, rfl, hb, hg, r⟩
  · exact .inl e
  · exact .inr ⟨g, cap, cur, rfl, hb, k.blk hg (h2 g rfl), r⟩
theorem QS.lt {w : World} {q : Nat} {s : Option Nat} {xs : List Wt} (h : QS w q s xs) : q < w.heap.size ∧ ∀ g, s = some g → g < w.heap.size := by
  obtain ⟨v, rfl, hC, hO, hn, hf⟩ := h
  exact ⟨hC.lt, fun g hg => (hO.lt g hg).2⟩

theorem ownsRow_setCell_far {w : World} {base q size n j : Nat} {e : TypeId} {v u : Value} {xs : List Value} (h : w.ownsRow base e size v n xs) (hn : v.ownBlock ≠ some q) : (w.setCell ⟨q, j, none⟩ u).ownsRow base e size v n xs :=
  h.kept (row := some q) ⟨rfl, rfl, rfl, by simp, fun k hk hr => Below.heap_setCell w ⟨q, j, none⟩ u k (fun e => hr (by rw [e]))⟩ (.inr hn)

theorem infoW : (Try.prog.info? 72).map (fun i => (i.zero, i.size, i.bytes)) = some (some (.agg #[.int .i64 0, .int .i64 0, .string ByteArray.empty, .int .i64 0, .int .i64 0]), 5, 48) := by kernel_rfl
theorem cell_add (w : World) (g j : Nat) : w.cell? ((⟨g, 0, none⟩ : Addr).add j) = w.cell? ⟨g, j, none⟩ := by
  have hadd : (⟨g, 0, none⟩ : Addr).add j = ⟨g, j, none⟩ := by unfold Addr.add; split <;> simp_all
  rw [hadd]

theorem append1 (w : World) (x : Wt) (v : Value) (n : Nat) (xs : List Value) (hown : w.ownsRow 0 72 5 v n xs) (gb : Nat) (hb : Blk w gb #[.int .i64 x.src, .int .i64 x.dst, .string x.txt, .int .i64 x.due, .int .i64 x.num] 72) (hf : n < 1000000) :
    ∃ v' w', (Builtin.append_ #[65, 65] 65 #[v, .slice (some ⟨gb, 0, none⟩) 1 1]).run Try.prog w = .ok v' w' ∧ w'.ownsRow 0 72 5 v' (n + 1) (xs ++ x.cells) ∧ w.grownBy w' v.ownBlock ∧ Fresh w v.ownBlock v'.ownBlock := by
  obtain ⟨i, hi, hz, hs, hby⟩ := info_parts infoW
  have hnews : ∀ j u, x.cells[j]? = some u → w.cell? ((⟨gb, 0, none⟩ : Addr).add j) = some u := by
    intro j u hu
    rw [cell_add, hb.cell]
    simpa [Wt.cells] using hu
  obtain ⟨v', w', hr, h1, h2, _⟩ := run_append_own (P := Try.prog) w 0 65 65 72 i _ 5 48 Try.underlying65 hi hz hs hby rfl (by decide) v n xs hown ⟨gb, 0, none⟩ 1 1 x.cells rfl hnews (by intro u hu; simp [Wt.cells] at hu; rcases hu with rfl | rfl | rfl | rfl | rfl <;> rfl) (by simp only [maxLen]; omega) (by omega) (Nat.zero_le _)
  refine ⟨v', w', hr, h1, h2, ?_⟩
  have hl : x.cells.length = 1 * i.size := by rw [hs]; rfl
  rcases hown.2 with ⟨rfl, rfl⟩ | ⟨g, cap, cur, rfl, hbg, hg, hnc, hcm, hcs, htake⟩
  · have hr2 := run_append_nil (P := Try.prog) w 65 65 72 i _ Try.underlying65 hi hz ⟨gb, 0, none⟩ 1 1 x.cells hl hnews (by decide) (by decide) (by rw [hby]; decide)
    rw [hr2] at hr
    cases hr
    exact .inr ⟨_, rfl, Nat.le_refl _⟩
  · by_cases hroom : n + 1 ≤ cap
    · have hr2 := run_append_room (P := Try.prog) w 65 65 72 i Try.underlying65 hi g n cap cur hg ⟨gb, 0, none⟩ 1 1 x.cells hl hnews (by intro u hu; simp [Wt.cells] at hu; rcases hu with rfl | rfl | rfl | rfl | rfl <;> rfl) hroom (by rw [hl, hs, hcs]; omega)
      rw [hr2] at hr
      cases hr
      exact .inl rfl
    · have hr2 := run_append_grow (P := Try.prog) w 65 65 72 i _ Try.underlying65 hi hz ⟨g, 0, none⟩ n cap xs (by rw [hown.1, hs]) (hown.cells (g := g) rfl) ⟨gb, 0, none⟩ 1 1 x.cells hl hnews (by omega) (by omega) (by rw [hby]; exact growslice_fits (by omega) (by omega))
      rw [hr2] at hr
      cases hr
      exact .inr ⟨_, rfl, Nat.le_refl _⟩

theorem run_append_op {P : Program} {a : Act} {oi : Oper} {t : TypeId} {x v : Nat} {p y u : Value} {w w1 : World} (ho : oi.op = .call { callee := .builtin .append, args := #[.tmp x, .tmp v], argTypes := #[t, t] }) (e1 : a.tmps[x]? = some p) (e2 : a.tmps[v]? = some y) (h : (Builtin.append_ #[t, t] oi.type #[p, y]).run P w = .ok u w1) : (execOp a.eval oi).run P w = .ok (.value u) w1 := by
  unfold execOp
  simp only [ho, resolve, invoke, builtin, Sem.run_bind, Sem.run_pure, Result.andThen_ok, List.map_toArray, List.map_cons, List.map_nil, eval_of e1, eval_of e2, h]

theorem store_owned {w : World} {e : TypeId} {n q : Nat} {v u : Value} {xs : List Value} (h : w.ownsRow 0 e 5 v n xs) (hC : Blk w q #[u] 65) : (Instr.storeAt 65 (.pointer (some ⟨q, 0, none⟩)) v).run Try.prog w = .ok () (w.setCell ⟨q, 0, none⟩ v) := by
  have c0 := hC.cell 0
  have f0 := hC.frozen 0
  rcases h.2 with ⟨rfl, _⟩ | ⟨g, cap, cur, rfl, _⟩
  · exact run_store_run _ _ [.slice none 0 0] hC rfl (by kernel_rfl) (by simp) (by simp [Value.oneCell'])
  · exact run_store_run _ _ [.slice (some ⟨g, 0, none⟩) n cap] hC rfl (by kernel_rfl) (by simp) (by simp [Value.oneCell'])

def lnPush.T0 : Bool × List (List Nat × List Nat) := (true, [([], []), ([], []), ([1], [1]), ([2], [2]), ([], []), ([4], [4]), ([5], [5]), ([3, 6], [3, 6]), ([0, 0, 1, 2, 3, 4, 5, 6, 7], [0]), ([8, 7, 7, 0, 1, 2, 3, 4, 5, 6, 7], [7, 8])])
def lnPush.B0 : List Nat := [0, 0, 2, 6, 0, 16, 48, 126, 255, 511]
theorem lnPush.tab0 : rtab .any (opsOf Try.f53 0) = lnPush.T0 := by kernel_rfl
theorem lnPush.bits0 : waitsOk lnPush.T0.2 lnPush.B0 = true := by kernel_rfl

set_option maxRecDepth 100000 in
set_option maxHeartbeats 2000000 in
theorem push_any (q : Nat) (s : Option Nat) (xs : List Wt) (x : Wt) (w0 : World) (hQ : QS w0 q s xs) (hf : xs.length < 1000000) :
    Calls Try.prog 53 #[.pointer (some ⟨q, 0, none⟩), .iface 72 (.agg #[.int .i64 x.src, .int .i64 x.dst, .string x.txt, .int .i64 x.due, .int .i64 x.num])] w0 fun e w' => e = .returned (.tuple #[]) ∧ ∃ s', QS w' q s' (xs ++ [x]) ∧ Fresh w0 s s' ∧ Touch w0 w' (fun k => k = q ∨ s = some k) := by
  obtain ⟨v, rfl, hC, hO, hn, _⟩ := hQ
  have C0 := Aside0.mk hC
  have O0 := Aside0.mk hO
  have few := Aside0.mk hf
  have NE : Aside0 (some q ≠ v.ownBlock) := ⟨fun e => hn e.symm⟩
  have ql := Aside0.mk hC.lt
  clear hC hO hf hn
  go_enter Try.func53, Try.ntmps53
  go_wp2_with fail
  refine start_ (n := 10) (S := fun w' => True) (ds := []) #[false, false, false, false, false, false, false, false, false, false] (by kernel_rfl) rfl rfl trivial (fun hHeld => ?_)
  refine with_tabW lnPush.tab0 lnPush.bits0 (fun HT_ HW_ => ?_)
  have K : Aside0 (w0.grownBy w0.drew v.ownBlock) := ⟨grownBy_drewN _ 1 _⟩
  have C : Aside0 (Blk w0.drew q #[v] 65) := ⟨C0.out⟩
  have O : Aside0 (w0.drew.ownsRow 0 72 5 v xs.length (flat xs)) := ⟨O0.out⟩
  generalize w0.drew = w1' at *
  refine inv_at [0, 1, 2, 3, 4, 5, 6, 7, 8, 9] (fun a0_ b a w' => ∃ (gb : Nat) (v1 : Value) (m6_ : Value), a = putSel a0_ b [(0, 4, .pointer (some ⟨q, 0, none⟩)), (1, 5, .pointer (some ⟨q, 0, none⟩)), (2, 6, .pointer (some ⟨q, 0, none⟩)), (3, 7, v), (4, 8, .iface 72 (.agg #[.int .i64 x.src, .int .i64 x.dst, .string x.txt, .int .i64 x.due, .int .i64 x.num])), (5, 9, .agg #[.int .i64 x.src, .int .i64 x.dst, .string x.txt, .int .i64 x.due, .int .i64 x.num]), (6, 10, m6_), (7, 11, v1), (8, 12, .pointer (some ⟨q, 0, none⟩))] ∧ (b 9 = false → w0.grownBy w' v.ownBlock) ∧ (b 9 = false → Blk w' q #[v] 65) ∧ (b 7 = false → w'.ownsRow 0 72 5 v xs.length (flat xs)) ∧ (b 6 = true → b 7 = false → Blk w' gb #[.int .i64 x.src, .int .i64 x.dst, .string x.txt, .int .i64 x.due, .int .i64 x.num] 72) ∧ (b 7 = true → w'.ownsRow 0 72 5 v1 (xs.length + 1) (flat xs ++ x.cells)) ∧ (b 7 = true → Fresh w0 v.ownBlock v1.ownBlock) ∧ (b 7 = true → b 9 = true → Blk w' q #[v1] 65) ∧ (b 9 = true → Touch w0 w' (fun k => k = q ∨ v.ownBlock = some k)) ∧ (b 6 = true → (m6_ : Value) = .slice (some ⟨gb, 0, none⟩) 1 1)) HT_.out HW_.out (by kernel_rfl) (by kernel_rfl) ?_ ?_ ?_
  · exact ⟨0, undef, .bool false, by simp only [putSel, Bool.false_eq_true, if_false], fun _ => K.out, fun _ => C.out, fun _ => O.out, fun h_ => absurd h_ (by decide), fun h_ => absurd h_ (by decide), fun h_ => absurd h_ (by decide), fun h_ => absurd h_ (by decide), fun h_ => absurd h_ (by decide), fun h_ => absurd h_ (by decide)⟩
  · skip
    clear C K O
    refine steps_cons ?_ ?_
    · rintro b a w' ⟨gb, v1, m6_, ha, Q_K, Q_C, Q_O, Q_Z, Q_O2, Q_N2, Q_C2, Q_K2, Q_X6_⟩ hb_ hon hoff
      refine ⟨_, rfl, fun K hK => ?_⟩
      have e0 : a.tmps[0]? = some (.pointer (some ⟨q, 0, none⟩)) := by rw [ha]; exact (putSel_off rfl).trans rfl
      replace ha := Aside0.mk ha
      have K := Aside0.mk (Q_K (hoff 9 (by kernel_rfl)))
      have C := Aside0.mk (Q_C (hoff 9 (by kernel_rfl)))
      refine value_ (w1 := w') (v := .pointer (some ⟨q, 0, none⟩)) (by rfl) rfl ?_ ?_
      · go_simp
        (try simp only [i64_w])
        try rfl
      refine hK.out _ _ ⟨gb, v1, m6_, (by rw [ha.out]; exact putSel_upk 0 hb_ rfl rfl rfl), Q_K, Q_C, Q_O, Q_Z, Q_O2, Q_N2, fun _ h1_ => absurd ((hoff 9 (by kernel_rfl)).symm.trans h1_) (by decide), fun h0_ => absurd ((hoff 9 (by kernel_rfl)).symm.trans h0_) (by decide), Q_X6_⟩
    refine steps_cons ?_ ?_
    · rintro b a w' ⟨gb, v1, m6_, ha, Q_K, Q_C, Q_O, Q_Z, Q_O2, Q_N2, Q_C2, Q_K2, Q_X6_⟩ hb_ hon hoff
      refine ⟨_, rfl, fun K hK => ?_⟩
      have e0 : a.tmps[0]? = some (.pointer (some ⟨q, 0, none⟩)) := by rw [ha]; exact (putSel_off rfl).trans rfl
      replace ha := Aside0.mk ha
      have K := Aside0.mk (Q_K (hoff 9 (by kernel_rfl)))
      have C := Aside0.mk (Q_C (hoff 9 (by kernel_rfl)))
      have O := Aside0.mk (Q_O (hoff 7 (by kernel_rfl)))
      refine value_ (w1 := w') (v := .pointer (some ⟨q, 0, none⟩)) (by rfl) rfl ?_ ?_
      · go_simp
        (try simp only [i64_w])
        try rfl
      refine hK.out _ _ ⟨gb, v1, m6_, (by rw [ha.out]; exact putSel_upk 1 hb_ rfl rfl rfl), Q_K, Q_C, Q_O, Q_Z, fun h0_ => absurd ((hoff 7 (by kernel_rfl)).symm.trans h0_) (by decide), fun h0_ => absurd ((hoff 7 (by kernel_rfl)).symm.trans h0_) (by decide), fun h0_ _ => absurd ((hoff 7 (by kernel_rfl)).symm.trans h0_) (by decide), fun h0_ => absurd ((hoff 9 (by kernel_rfl)).symm.trans h0_) (by decide), Q_X6_⟩
    refine steps_cons ?_ ?_
    · rintro b a w' ⟨gb, v1, m6_, ha, Q_K, Q_C, Q_O, Q_Z, Q_O2, Q_N2, Q_C2, Q_K2, Q_X6_⟩ hb_ hon hoff
      refine ⟨_, rfl, fun K hK => ?_⟩
      have e5 : a.tmps[5]? = some (.pointer (some ⟨q, 0, none⟩)) := by rw [ha]; exact putSel_on (e := (1, 5, .pointer (some ⟨q, 0, none⟩))) 1 rfl rfl (hon 1 (by kernel_rfl)) rfl
      replace ha := Aside0.mk ha
      have K := Aside0.mk (Q_K (hoff 9 (by kernel_rfl)))
      have C := Aside0.mk (Q_C (hoff 9 (by kernel_rfl)))
      have O := Aside0.mk (Q_O (hoff 7 (by kernel_rfl)))
      refine value_ (w1 := w') (v := .pointer (some ⟨q, 0, none⟩)) (by rfl) rfl ?_ ?_
      · go_simp
        (try simp only [i64_w])
        try rfl
      refine hK.out _ _ ⟨gb, v1, m6_, (by rw [ha.out]; exact putSel_upk 2 hb_ rfl rfl rfl), Q_K, Q_C, Q_O, Q_Z, fun h0_ => absurd ((hoff 7 (by kernel_rfl)).symm.trans h0_) (by decide), fun h0_ => absurd ((hoff 7 (by kernel_rfl)).symm.trans h0_) (by decide), fun h0_ _ => absurd ((hoff 7 (by kernel_rfl)).symm.trans h0_) (by decide), fun h0_ => absurd ((hoff 9 (by kernel_rfl)).symm.trans h0_) (by decide), Q_X6_⟩
    refine steps_cons ?_ ?_
    · rintro b a w' ⟨gb, v1, m6_, ha, Q_K, Q_C, Q_O, Q_Z, Q_O2, Q_N2, Q_C2, Q_K2, Q_X6_⟩ hb_ hon hoff
      refine ⟨_, rfl, fun K hK => ?_⟩
      have e6 : a.tmps[6]? = some (.pointer (some ⟨q, 0, none⟩)) := by rw [ha]; exact putSel_on (e := (2, 6, .pointer (some ⟨q, 0, none⟩))) 2 rfl rfl (hon 2 (by kernel_rfl)) rfl
      replace ha := Aside0.mk ha
      have K := Aside0.mk (Q_K (hoff 9 (by kernel_rfl)))
      have C := Aside0.mk (Q_C (hoff 9 (by kernel_rfl)))
      have O := Aside0.mk (Q_O (hoff 7 (by kernel_rfl)))
      have c0 : w'.cell? ⟨q, 0, none⟩ = some v := C.out.cell 0
      refine value_ (w1 := w') (v := v) (by rfl) rfl ?_ ?_
      · go_simp
        (try simp only [i64_w])
        try rfl
      refine hK.out _ _ ⟨gb, v1, m6_, (by rw [ha.out]; exact putSel_upk 3 hb_ rfl rfl rfl), Q_K, Q_C, Q_O, Q_Z, fun h0_ => absurd ((hoff 7 (by kernel_rfl)).symm.trans h0_) (by decide), fun h0_ => absurd ((hoff 7 (by kernel_rfl)).symm.trans h0_) (by decide), fun h0_ _ => absurd ((hoff 7 (by kernel_rfl)).symm.trans h0_) (by decide), fun h0_ => absurd ((hoff 9 (by kernel_rfl)).symm.trans h0_) (by decide), Q_X6_⟩
    refine steps_cons ?_ ?_
    · rintro b a w' ⟨gb, v1, m6_, ha, Q_K, Q_C, Q_O, Q_Z, Q_O2, Q_N2, Q_C2, Q_K2, Q_X6_⟩ hb_ hon hoff
      refine ⟨_, rfl, fun K hK => ?_⟩
      have e1 : a.tmps[1]? = some (.iface 72 (.agg #[.int .i64 x.src, .int .i64 x.dst, .string x.txt, .int .i64 x.due, .int .i64 x.num])) := by rw [ha]; exact (putSel_off rfl).trans rfl
      replace ha := Aside0.mk ha
      have K := Aside0.mk (Q_K (hoff 9 (by kernel_rfl)))
      have C := Aside0.mk (Q_C (hoff 9 (by kernel_rfl)))
      have O := Aside0.mk (Q_O (hoff 7 (by kernel_rfl)))
      refine value_ (w1 := w') (v := .iface 72 (.agg #[.int .i64 x.src, .int .i64 x.dst, .string x.txt, .int .i64 x.due, .int .i64 x.num])) (by rfl) rfl ?_ ?_
      · go_simp
        (try simp only [i64_w])
        try rfl
      refine hK.out _ _ ⟨gb, v1, m6_, (by rw [ha.out]; exact putSel_upk 4 hb_ rfl rfl rfl), Q_K, Q_C, Q_O, fun h0_ _ => absurd ((hoff 6 (by kernel_rfl)).symm.trans h0_) (by decide), fun h0_ => absurd ((hoff 7 (by kernel_rfl)).symm.trans h0_) (by decide), fun h0_ => absurd ((hoff 7 (by kernel_rfl)).symm.trans h0_) (by decide), fun h0_ _ => absurd ((hoff 7 (by kernel_rfl)).symm.trans h0_) (by decide), fun h0_ => absurd ((hoff 9 (by kernel_rfl)).symm.trans h0_) (by decide), fun h0_ => absurd ((hoff 6 (by kernel_rfl)).symm.trans h0_) (by decide)⟩
    refine steps_cons ?_ ?_
    · rintro b a w' ⟨gb, v1, m6_, ha, Q_K, Q_C, Q_O, Q_Z, Q_O2, Q_N2, Q_C2, Q_K2, Q_X6_⟩ hb_ hon hoff
      refine ⟨_, rfl, fun K hK => ?_⟩
      have e8 : a.tmps[8]? = some (.iface 72 (.agg #[.int .i64 x.src, .int .i64 x.dst, .string x.txt, .int .i64 x.due, .int .i64 x.num])) := by rw [ha]; exact putSel_on (e := (4, 8, .iface 72 (.agg #[.int .i64 x.src, .int .i64 x.dst, .string x.txt, .int .i64 x.due, .int .i64 x.num]))) 4 rfl rfl (hon 4 (by kernel_rfl)) rfl
      replace ha := Aside0.mk ha
      have K := Aside0.mk (Q_K (hoff 9 (by kernel_rfl)))
      have C := Aside0.mk (Q_C (hoff 9 (by kernel_rfl)))
      have O := Aside0.mk (Q_O (hoff 7 (by kernel_rfl)))
      refine value_ (w1 := w') (v := .agg #[.int .i64 x.src, .int .i64 x.dst, .string x.txt, .int .i64 x.due, .int .i64 x.num]) (by rfl) rfl ?_ ?_
      · go_simp
        (try simp only [i64_w])
        try rfl
      refine hK.out _ _ ⟨gb, v1, m6_, (by rw [ha.out]; exact putSel_upk 5 hb_ rfl rfl rfl), Q_K, Q_C, Q_O, fun h0_ _ => absurd ((hoff 6 (by kernel_rfl)).symm.trans h0_) (by decide), fun h0_ => absurd ((hoff 7 (by kernel_rfl)).symm.trans h0_) (by decide), fun h0_ => absurd ((hoff 7 (by kernel_rfl)).symm.trans h0_) (by decide), fun h0_ _ => absurd ((hoff 7 (by kernel_rfl)).symm.trans h0_) (by decide), fun h0_ => absurd ((hoff 9 (by kernel_rfl)).symm.trans h0_) (by decide), fun h0_ => absurd ((hoff 6 (by kernel_rfl)).symm.trans h0_) (by decide)⟩
    refine steps_cons ?_ ?_
    · rintro b a w' ⟨gb, v1, m6_, ha, Q_K, Q_C, Q_O, Q_Z, Q_O2, Q_N2, Q_C2, Q_K2, Q_X6_⟩ hb_ hon hoff
      refine ⟨_, rfl, fun K hK => ?_⟩
      have e9 : a.tmps[9]? = some (.agg #[.int .i64 x.src, .int .i64 x.dst, .string x.txt, .int .i64 x.due, .int .i64 x.num]) := by rw [ha]; exact putSel_on (e := (5, 9, .agg #[.int .i64 x.src, .int .i64 x.dst, .string x.txt, .int .i64 x.due, .int .i64 x.num])) 5 rfl rfl (hon 5 (by kernel_rfl)) rfl
      replace ha := Aside0.mk ha
      have K := Aside0.mk (Q_K (hoff 9 (by kernel_rfl)))
      have C := Aside0.mk (Q_C (hoff 9 (by kernel_rfl)))
      have O := Aside0.mk (Q_O (hoff 7 (by kernel_rfl)))
      refine value_ (w1 := w'.alloc (.cells #[.int .i64 x.src, .int .i64 x.dst, .string x.txt, .int .i64 x.due, .int .i64 x.num] 72)) (v := .slice (some ⟨w'.heap.size, 0, none⟩) 1 1) (by rfl) rfl ?_ ?_
      · go_simp
      refine hK.out _ _ ⟨w'.heap.size, v1, (.slice (some ⟨w'.heap.size, 0, none⟩) 1 1), (by rw [ha.out]; exact putSel_upk 6 hb_ rfl rfl rfl), fun _ => K.out.trans' (World.grownBy_alloc _ _ _), fun _ => C.out.alloc _, fun _ => O.out.alloc _, fun _ _ => Blk.new w' _ _ rfl, fun h0_ => absurd ((hoff 7 (by kernel_rfl)).symm.trans h0_) (by decide), fun h0_ => absurd ((hoff 7 (by kernel_rfl)).symm.trans h0_) (by decide), fun h0_ _ => absurd ((hoff 7 (by kernel_rfl)).symm.trans h0_) (by decide), fun h0_ => absurd ((hoff 9 (by kernel_rfl)).symm.trans h0_) (by decide), fun _ => rfl⟩
    refine steps_cons ?_ ?_
    · rintro b a w' ⟨gb, v1, m6_, ha, Q_K, Q_C, Q_O, Q_Z, Q_O2, Q_N2, Q_C2, Q_K2, Q_X6_⟩ hb_ hon hoff
      refine ⟨_, rfl, fun K hK => ?_⟩
      have e7 : a.tmps[7]? = some (v) := by rw [ha]; exact putSel_on (e := (3, 7, v)) 3 rfl rfl (hon 3 (by kernel_rfl)) rfl
      have e10 : a.tmps[10]? = some (m6_) := by rw [ha]; exact putSel_on (e := (6, 10, m6_)) 6 rfl rfl (hon 6 (by kernel_rfl)) rfl
      rw [Q_X6_ (hon 6 (by kernel_rfl))] at e10
      replace ha := Aside0.mk ha
      have K := Aside0.mk (Q_K (hoff 9 (by kernel_rfl)))
      have C := Aside0.mk (Q_C (hoff 9 (by kernel_rfl)))
      have O := Aside0.mk (Q_O hb_)
      have Z := Aside0.mk (Q_Z (hon 6 (by kernel_rfl)) hb_)
      obtain ⟨vv, w2, hr, h1, h2, h3⟩ := append1 w' x v xs.length (flat xs) O.out gb Z.out few.out
      refine value_ (w1 := w2) (v := vv) (by rfl) rfl ?_ ?_
      · exact run_append_op (by rfl) e7 e10 hr
      refine hK.out _ _ ⟨gb, vv, m6_, (by rw [ha.out]; exact putSel_upk 7 hb_ rfl rfl rfl), fun _ => K.out.trans' h2, fun _ => ((h2.block q C.out.lt (NE.out)).trans C.out), fun h0_ => absurd ((up_self b 7).symm.trans h0_) (by decide), fun _ h1_ => absurd ((up_self b 7).symm.trans h1_) (by decide), fun _ => h1, fun _ => h3.older K.out.size, fun _ h1_ => absurd ((hoff 9 (by kernel_rfl)).symm.trans h1_) (by decide), fun h0_ => absurd ((hoff 9 (by kernel_rfl)).symm.trans h0_) (by decide), Q_X6_⟩
    refine steps_cons ?_ ?_
    · rintro b a w' ⟨gb, v1, m6_, ha, Q_K, Q_C, Q_O, Q_Z, Q_O2, Q_N2, Q_C2, Q_K2, Q_X6_⟩ hb_ hon hoff
      refine ⟨_, rfl, fun K hK => ?_⟩
      have e4 : a.tmps[4]? = some (.pointer (some ⟨q, 0, none⟩)) := by rw [ha]; exact putSel_on (e := (0, 4, .pointer (some ⟨q, 0, none⟩))) 0 rfl rfl (hon 0 (by kernel_rfl)) rfl
      replace ha := Aside0.mk ha
      have K := Aside0.mk (Q_K (hoff 9 (by kernel_rfl)))
      have C := Aside0.mk (Q_C (hoff 9 (by kernel_rfl)))
      have O2 := Aside0.mk (Q_O2 (hon 7 (by kernel_rfl)))
      have N2 := Aside0.mk (Q_N2 (hon 7 (by kernel_rfl)))
      refine value_ (w1 := w') (v := .pointer (some ⟨q, 0, none⟩)) (by rfl) rfl ?_ ?_
      · go_simp
        (try simp only [i64_w])
        try rfl
      refine hK.out _ _ ⟨gb, v1, m6_, (by rw [ha.out]; exact putSel_upk 8 hb_ rfl rfl rfl), Q_K, Q_C, fun h0_ => absurd ((hon 7 (by kernel_rfl)).symm.trans h0_) (by decide), fun _ h1_ => absurd ((hon 7 (by kernel_rfl)).symm.trans h1_) (by decide), Q_O2, Q_N2, fun _ h1_ => absurd ((hoff 9 (by kernel_rfl)).symm.trans h1_) (by decide), fun h0_ => absurd ((hoff 9 (by kernel_rfl)).symm.trans h0_) (by decide), Q_X6_⟩
    refine steps_cons ?_ ?_
    · rintro b a w' ⟨gb, v1, m6_, ha, Q_K, Q_C, Q_O, Q_Z, Q_O2, Q_N2, Q_C2, Q_K2, Q_X6_⟩ hb_ hon hoff
      refine ⟨_, rfl, fun K hK => ?_⟩
      have e12 : a.tmps[12]? = some (.pointer (some ⟨q, 0, none⟩)) := by rw [ha]; exact putSel_on (e := (8, 12, .pointer (some ⟨q, 0, none⟩))) 8 rfl rfl (hon 8 (by kernel_rfl)) rfl
      have e11 : a.tmps[11]? = some (v1) := by rw [ha]; exact putSel_on (e := (7, 11, v1)) 7 rfl rfl (hon 7 (by kernel_rfl)) rfl
      replace ha := Aside0.mk ha
      have K := Aside0.mk (Q_K hb_)
      have C := Aside0.mk (Q_C hb_)
      have O2 := Aside0.mk (Q_O2 (hon 7 (by kernel_rfl)))
      have N2 := Aside0.mk (Q_N2 (hon 7 (by kernel_rfl)))
      have hr := store_owned O2.out C.out
      refine skip_ (w1 := w'.setCell ⟨q, 0, none⟩ v1) (by rfl) rfl ?_ ?_
      · exact run_store_op (by rfl) e12 e11 hr
      refine hK.out _ _ ⟨gb, v1, m6_, (by rw [ha.out]; exact putSel_none (v := undef) rfl), fun h0_ => absurd ((up_self b 9).symm.trans h0_) (by decide), fun h0_ => absurd ((up_self b 9).symm.trans h0_) (by decide), fun h0_ => absurd ((hon 7 (by kernel_rfl)).symm.trans h0_) (by decide), fun _ h1_ => absurd ((hon 7 (by kernel_rfl)).symm.trans h1_) (by decide), fun _ => ownsRow_setCell_far O2.out (N2.out.ne NE.out ql.out), fun _ => N2.out, fun _ _ => C.out.put 0 _ rfl, fun _ => K.out.put q v1, Q_X6_⟩
    exact steps_nil
  · rintro b a w' hall ⟨gb, v1, m6_, ha, Q_K, Q_C, Q_O, Q_Z, Q_O2, Q_N2, Q_C2, Q_K2, Q_X6_⟩
    clear C K O
    have hb0_ := hall 0 (by kernel_rfl)
    have hb1_ := hall 1 (by kernel_rfl)
    have hb2_ := hall 2 (by kernel_rfl)
    have hb3_ := hall 3 (by kernel_rfl)
    have hb4_ := hall 4 (by kernel_rfl)
    have hb5_ := hall 5 (by kernel_rfl)
    have hb6_ := hall 6 (by kernel_rfl)
    have hb7_ := hall 7 (by kernel_rfl)
    have hb8_ := hall 8 (by kernel_rfl)
    have hb9_ := hall 9 (by kernel_rfl)
    subst ha
    obtain rfl := Q_X6_ hb6_
    simp only [putSel, hb0_, hb1_, hb2_, hb3_, hb4_, hb5_, hb6_, hb7_, hb8_, hb9_, if_true, Act.put, List.setIfInBounds_toArray, List.set_cons_zero, List.set_cons_succ]
    clear Q_K
    clear Q_C
    clear Q_O
    clear Q_Z
    have O2 := Aside0.mk (Q_O2 hb7_)
    clear Q_O2
    have N2 := Aside0.mk (Q_N2 hb7_)
    clear Q_N2
    have C2 := Aside0.mk (Q_C2 hb7_ hb9_)
    clear Q_C2
    have K2 := Aside0.mk (Q_K2 hb9_)
    clear Q_K2
    clear hall hb0_ hb1_ hb2_ hb3_ hb4_ hb5_ hb6_ hb7_ hb8_ hb9_
    go_wp2
    go_end0
    exact ⟨rfl, v1.ownBlock, QS.mk' C2.out O2.out (N2.out.ne NE.out ql.out) few.out, N2.out, K2.out⟩

end Go.Proofs.Ytemcbaacefjfnaa
