/- OMd, OMe, OMf: merged by wip/prune.py. -/
import Derived.Test.YthpccdhmppbkfaaSa7
/- the reference's Made: what its parts keep. -/
set_option linter.unusedVariables false
set_option linter.unusedSimpArgs false
set_option maxRecDepth 100000
set_option maxHeartbeats 16000000
namespace Go.Proofs.Ythpccdhmppbkfaa
open Go.RowKit Go.Shelf Go.Proofs.YthpccdhmppbkfaaW.PrintWords Go.Proofs.YthpccdhmppbkfaaW.PrintLast Go.Proofs.YthpccdhmppbkfaaW.PrintMore
theorem R_grown_types {α β : Type} {d : Kd α} {d' : Kd β} {e e' : Nat} {base base' : Nat} {ok : Nat → Prop} {w w' : World} {v u : Value} {xs : List α} {ys : List β} (h : Kd.R d e w base (fun _ => True) v xs) (k : Kd.R d' e' w base' ok u ys) (ht : ∀ q, q ∈ e :: d.E → q ≠ e') (hg : w.grownBy w' u.ownBlock) : Kd.R d e w' base (fun _ => True) v xs := by
 refine Kd.R_mono (Kd.R_grown (Kd.R_bound h) hg (fun j hj he => ?_)) (fun _ hk => hk.1)
 obtain ⟨_, _, _, q, hq, cells, hc⟩ := hj
 obtain ⟨inner, ho⟩ := Kd.R_own k
 obtain ⟨cells', hc'⟩ := own_typed ho j he.symm
 rw [hc] at hc'
 injection hc' with hc'
 injection hc' with h1 h2
 exact ht q hq h2
def PtOk (p : Pt) : Prop := -10 ≤ p.a ∧ p.a ≤ 100 ∧ -10 ≤ p.b ∧ p.b ≤ 100
def oMd22.T22 : Bool × List (List Nat × List Nat) := (true, [([], []), ([0], [0]), ([], []), ([], []), ([2, 3], [2, 3]), ([], []), ([5], [5]), ([6], [6]), ([], []), ([8, 6], [8]), ([9], [9]), ([4, 7, 10], [4, 7, 10]), ([11], [11]), ([1, 12, 9], [1, 12]), ([0, 1, 2, 3, 4, 5, 6, 7, 8, 9, 10, 11, 12, 13], []), ([14, 13, 13, 0, 1, 2, 3, 4, 5, 6, 7, 8, 9, 10, 11, 12, 13], [13, 14])])
def oMd22.B22 : List Nat := [0, 1, 0, 0, 12, 0, 32, 96, 0, 352, 864, 2044, 4092, 8191, 16383, 32767]
theorem oMd22.tab22 : rtab .any (opsOf Try.f24 22) = oMd22.T22 := by kernel_rfl
theorem oMd22.bits22 : waitsOk oMd22.T22.2 oMd22.B22 = true := by kernel_rfl
def AnOk (cl : Int) (an : List I3) : Prop := ∀ j, j < an.length → (an.getD j zI3).a = cl + j ∧ -10 ≤ (an.getD j zI3).b ∧ (an.getD j zI3).b ≤ 100 ∧ -10 ≤ (an.getD j zI3).c ∧ (an.getD j zI3).c ≤ 100
theorem an_snoc {cl b c : Int} {k : Nat} {an : List I3} (hl : an.length = k) (h : AnOk cl an) (hb : -10 ≤ b ∧ b ≤ 100) (hc : -10 ≤ c ∧ c ≤ 100) : AnOk cl (an ++ [⟨cl + k, b, c⟩]) := by
 intro j hj
 rw [List.length_append, List.length_singleton] at hj
 rcases Nat.lt_or_ge j an.length with h1 | h1
 ·have e : (an ++ [(⟨cl + k, b, c⟩ : I3)]).getD j zI3 = an.getD j zI3 := by rw [List.getD_eq_getElem?_getD, List.getElem?_append_left h1, ← List.getD_eq_getElem?_getD]
  rw [e]; exact h j h1
 ·have e : (an ++ [(⟨cl + k, b, c⟩ : I3)]).getD j zI3 = ⟨cl + k, b, c⟩ := by rw [List.getD_eq_getElem?_getD, List.getElem?_append_right h1, show j - an.length = 0 by omega]; rfl
  rw [e]
  exact ⟨by dsimp only; omega, hb.1, hb.2, hc.1, hc.2⟩
def HangOk (hg : I3) : Prop := hg = ⟨0, 0, 0⟩ ∨ (1 ≤ hg.a ∧ hg.a ≤ 3 ∧ -10 ≤ hg.b ∧ hg.b ≤ 100 ∧ -10 ≤ hg.c ∧ hg.c ≤ 100)
def PsOk (ps : List Pt) : Prop := ∀ p ∈ ps, PtOk p
def CsOk (cs : List (List Pt)) : Prop := ∀ c_ ∈ cs, (3 ≤ c_.length ∧ c_.length ≤ 5) ∧ PsOk c_
/- the reference's Made: its loop over deltas. -/
noncomputable def mdLoop4 : Code := ((Try.f24.body.map loopsOf).getD []).getD 2 .skip
def DlsOk (n : Nat) (hc : Int) (k : Nat) (l : List Dl) : Prop := l.length ≤ 2 ∧ dlB n k hc (-1) l = true
theorem dlB_mono (n : Nat) (R R' hc : Int) (h : R ≤ R') : ∀ (l : List Dl) (p : Int), dlB n R hc p l = true → dlB n R' hc p l = true
 | [], _, _ => rfl
 | a :: l, p, hh => by
  simp only [dlB, dOk, Bool.and_eq_true, decide_eq_true_eq] at hh ⊢
  exact ⟨⟨hh.1.1, by omega, hh.1.2.2⟩, dlB_mono n R R' hc h l _ hh.2⟩
theorem dlB_snoc (n : Nat) (k : Nat) (hc : Int) (d : Dl) (hr : d.region = k) (hd : wiB 64 d.adv = true) (hl : d.moves.length = n) (hm : (d.moves.any fun m => !mvB m) = false) (hz : hc = 0 → d.moves.getD (n - 1) zI2 = zI2) : ∀ (l : List Dl) (p : Int), p < k → dlB n k hc p l = true → dlB n ((k : Int) + 1) hc p (l ++ [d]) = true
 | [], p, hp, _ => by
  show (dOk n ((k : Int) + 1) hc p d && true) = true
  rw [Bool.and_true]
  unfold dOk
  rw [decide_eq_true (show (0 : Int) ≤ d.region by omega), decide_eq_true (show d.region < (k : Int) + 1 by omega), decide_eq_true (show p < d.region by omega), hd, decide_eq_true hl, hm]
  by_cases h : hc = 0
  ·rw [decide_eq_true h, decide_eq_true (hz h)]; rfl
  ·rw [decide_eq_false h]; rfl
 | a :: l, p, hp, hh => by
  have h1 : (dOk n k hc p a && dlB n k hc a.region l) = true := hh
  show (dOk n ((k : Int) + 1) hc p a && dlB n ((k : Int) + 1) hc a.region (l ++ [d])) = true
  simp only [dOk, Bool.and_eq_true, decide_eq_true_eq] at h1 ⊢
  exact ⟨⟨h1.1.1, by omega, h1.1.2.2⟩, dlB_snoc n k hc d hr hd hl hm hz l _ h1.1.2.1 h1.2⟩
structure InM (w : World) (gd g4 g6 : Nat) (A : Option Addr) (c : Nat) (l : List Int) (cs : List (List Pt)) (an : List I3) (hg : I3) (adv : Int) (vc va : Value) (k : Nat) (dls : List Dl) (vd : Value) (W : World) : Prop where
 b4 : Blk W g4 #[.slice none 0 0, .slice none 0 0, .int .i64 0, .int .i64 0, .int .i64 0, .int .i64 0, .slice none 0 0, .slice none 0 0] 29
 b6 : Blk W g6 #[vc, va, .int .i64 hg.a, .int .i64 hg.b, .int .i64 hg.c, .int .i64 adv, vd, .slice none 0 0] 29
 rc : Kd.R kCt 71 W w.heap.size (fun _ => True) vc cs
 ra : Kd.R kI3 25 W w.heap.size (fun _ => True) va an
 rd : Kd.R kDl 59 W w.heap.size (fun _ => True) vd dls
 dr : DrS w gd A c l W
 ok : DlsOk (an.length + 1 + ptsN cs) hg.a k dls
theorem append_kd2 {α : Type} {d : Kd α} {w0 w : World} {base : Nat} {v : Value} {xs : List α} {okp : Nat → Prop} (t e : TypeId) (z : Value) (bytes : Nat) (ht : Try.prog.underlying t = some (.slice e)) (hinfo : (Try.prog.info? e).map (fun i => (i.zero, i.size, i.bytes)) = some (some z, d.sz, bytes)) (hz : z.cells.size = d.sz) (hs0 : 0 < d.sz) (hb0 : 0 < bytes)
  (hR : d.R e w base (fun _ => True) v xs) (hB : Below base w0 w) (hbase : base ≤ w.heap.size) (g : Nat) (p : α) (cs : List Value) (hblk : Blk w g cs.toArray e) (hp : d.M w base okp p cs) (hokp : ∀ k, okp k → True ∧ some k ≠ v.ownBlock) (hl : (xs.length + 1) * bytes ≤ 140737488355328) :
  ∃ v' w', (Builtin.append_ #[t, t] t #[v, .slice (some ⟨g, 0, none⟩) 1 1]).run Try.prog w = .ok v' w' ∧ d.R e w' base (fun _ => True) v' (xs ++ [p]) ∧ Below base w0 w' ∧ w.grownBy w' v.ownBlock := by
 obtain ⟨h0, inner, hown, hr⟩ := hR
 obtain ⟨i0, hi, hzz⟩ := Option.map_eq_some_iff.1 hinfo
 simp only [Prod.mk.injEq] at hzz
 obtain ⟨hz0, hz1, hz2⟩ := hzz
 have hlen : xs.length + 1 ≤ 140737488355328 := Nat.le_trans (Nat.le_mul_of_pos_right _ hb0) hl
 obtain ⟨v1, w1, hrun, ho, hg, _, hat⟩ := run_append_own_at (P := Try.prog) w base t t e i0 z d.sz bytes ht hi hz0 hz1 hz2 hz hs0 v xs.length inner hown ⟨g, 0, none⟩ 1 1 cs (by rw [Nat.one_mul]; exact d.K_len (d.K_of_M hp)) (by
  intro j u hu
  have hb := hblk.cell j
  rw [add_plain, hb]
  simpa using hu) (d.K_one (d.K_of_M hp)) (by simp only [maxLen]; omega) hl hbase
 exact ⟨v1, w1, hrun, Kd.R_appended (okp := okp) h0 hr hp hokp (fun _ _ => trivial) ho hg (hat.imp_right fun h => ⟨_, h, Nat.le_refl _⟩), hB.grown hg hbase (own_base hown), hg⟩
theorem grown_size {w w' : World} {b : Option Nat} (h : w.grownBy w' b) : w.heap.size ≤ w'.heap.size := h.size
theorem kDl_mkM {w : World} {base : Nat} {ok : Nat → Prop} {x : Dl} {v : Value} (h : Kd.R kI2 62 w base ok v x.moves) : kDl.M w base ok x [.int .i64 x.region, .int .i64 x.adv, v] := ⟨[.int .i64 x.region], [.int .i64 x.adv, v], rfl, rfl, ⟨[.int .i64 x.adv], [v], rfl, rfl, ⟨v, rfl, h⟩⟩⟩
theorem ptsN_le5 : ∀ (cs : List (List Pt)), (∀ c_ ∈ cs, c_.length ≤ 5) → ptsN cs ≤ 5 * cs.length
 | [], _ => Nat.le_refl 0
 | x :: cs, h => by
  have h1 := ptsN_le5 cs (fun c_ hc => h c_ (List.mem_cons_of_mem _ hc))
  have h2 := h x (List.mem_cons_self ..)
  unfold ptsN at h1 ⊢
  rw [List.map_cons, List.sum_cons, List.length_cons]
  omega
theorem lt_mu17 {T U : Array Value} {L k : Nat} {x y : Int} (ha : T[17]? = some (.int .i64 x)) (hb : U[17]? = some (.int .i64 y)) (hx : x = ((k + 1 : Nat) : Int)) (hk : k < L) (hy : y = (k : Int) := by rfl) : L - (intOf (T.getD 17 undef)).toNat < L - (intOf (U.getD 17 undef)).toNat := by
 subst hx hy
 rw [Array.getD_eq_getD_getElem?, Array.getD_eq_getD_getElem?, ha, hb]
 simp [intOf]
 omega
theorem any_false {α : Type} (f : α → Bool) : ∀ l : List α, (∀ x ∈ l, f x = false) → l.any f = false
 | [], _ => rfl
 | a :: l, h => by
  show (f a || l.any f) = false
  rw [h a (List.mem_cons_self ..), any_false f l (fun x hx => h x (List.mem_cons_of_mem _ hx))]; rfl
theorem wi64 (x : Int) (h : -10 ≤ x ∧ x ≤ 20) : wiB 64 x = true := by unfold wiB; simp only [Bool.and_eq_true, decide_eq_true_eq]; omega
theorem dls_next {n : Nat} {hc : Int} {k : Nat} {l : List Dl} (h : DlsOk n hc k l) : DlsOk n hc (k + 1) l := ⟨h.1, dlB_mono n k ((k + 1 : Nat) : Int) hc (by omega) l (-1) h.2⟩
theorem dls_snoc {n : Nat} {hc : Int} {k : Nat} {l : List Dl} (g : Gl) (hg : g.pts = n) (hh : g.hang.a = hc) {av : Int} {ms : List I2} (h : DlsOk n hc k l) (h2 : l.length < 2) (ha : -10 ≤ av ∧ av ≤ 20) (hm : MvOk g ms) : DlsOk n hc (k + 1) (l ++ [⟨(k : Int), av, ms⟩]) := by
 subst hg hh
 refine ⟨by rw [List.length_append, List.length_singleton]; omega, ?_⟩
 have := dlB_snoc g.pts k g.hang.a ⟨(k : Int), av, ms⟩ rfl (wi64 av ha) hm.1 (any_false _ _ (fun x hx => by
  obtain ⟨h1, h2, h3, h4⟩ := hm.2.1 x hx
  show (!mvB x) = false
  have h5 : mvB x = true := by unfold mvB wi2; simp only [Bool.and_eq_true]; exact ⟨wi64 _ (by omega), wi64 _ (by omega)⟩
  rw [h5]; rfl)) hm.2.2 l (-1) (by omega) h.2
 exact this
def oMe29.T29 : Bool × List (List Nat × List Nat) := (true, [([], []), ([0], [0]), ([], []), ([], []), ([], []), ([2, 3, 4], [2, 3, 4]), ([5], [5]), ([1, 6, 5], [1, 6]), ([0, 1, 2, 3, 4, 5, 6, 7], []), ([8, 7, 7, 0, 1, 2, 3, 4, 5, 6, 7], [7, 8])])
def oMe29.B29 : List Nat := [0, 1, 0, 0, 0, 28, 60, 127, 255, 511]
theorem oMe29.tab29 : rtab .any (opsOf Try.f24 29) = oMe29.T29 := by kernel_rfl
theorem oMe29.bits29 : waitsOk oMe29.T29.2 oMe29.B29 = true := by kernel_rfl
set_option maxRecDepth 1000000 in
theorem made_loop4 (w : World) (gd g4 g6 : Nat) (A : Option Addr) (c : Nat) (l : List Int) (cs : List (List Pt)) (an : List I3) (hg : I3) (adv : Int) (vc va : Value) (R : Nat) (wh : World) (dfs : List Deferred)
  (hR : R ≤ 3) (hcs : cs.length ≤ 2) (hokc : CsOk cs) (han : an.length ≤ 2) (ne4 : g4 ≠ gd) (ne6 : g6 ≠ gd) (n46 : g4 ≠ g6) (hg6 : w.heap.size ≤ g6) (h0 : InM w gd g4 g6 A c l cs an hg adv vc va (0) ([]) (.slice none 0 0) wh) (Q0 : Exit → Act → World → Prop) (z0 z2 z3 z4 z7 z8 z9 z10 z11 z12 z13 z14 z15 z16 z18 z19 z20 z21 z22 z23 z24 z25 z26 z27 z28 z29 z30 z31 z32 z33 z34 z35 z36 z37 z38 z39 z40 z41 z42 z43 z44 z45 z46 z47 z48 z49 z50 z51 z52 z53 z54 z55 z56 z57 z58 z59 z60 z61 z62 z63 z64 z65 z66 z67 z68 z69 z70 z71 z72 z73 z74 z75 z76 z77 z78 z79 z80 z81 z82 z83 z84 z85 z86 z87 z88 z89 z90 z91 z92 z93 z94 z95 z96 z97 z98 z99 z100 z101 z102 z103 z104 z105 z129 u106 u107 u108 u109 u110 u111 u112 u113 u114 u115 u116 u117 u118 u119 u120 u121 u122 u123 u124 u125 u126 u127 u128 : Value)
  (hex : ∀ (k : Nat) (dls : List Dl) (vd : Value) (W : World) (u106 u107 u108 u109 u110 u111 u112 u113 u114 u115 u116 u117 u118 u119 u120 u121 u122 u123 u124 u125 u126 u127 u128 : Value), InM w gd g4 g6 A c l cs an hg adv vc va (R) (dls) (vd) W → Q0 (.exit 6) { tmps := (z0 :: (.int .i64 (R : Int)) :: z2 :: z3 :: z4 :: (.pointer (some ⟨gd, 0, none⟩)) :: (.pointer (some ⟨g6, 0, none⟩)) :: z7 :: z8 :: z9 :: z10 :: z11 :: z12 :: z13 :: z14 :: z15 :: z16 :: (.int .i64 (k : Int)) :: z18 :: z19 :: z20 :: z21 :: z22 :: z23 :: z24 :: z25 :: z26 :: z27 :: z28 :: z29 :: z30 :: z31 :: z32 :: z33 :: z34 :: z35 :: z36 :: z37 :: z38 :: z39 :: z40 :: z41 :: z42 :: z43 :: z44 :: z45 :: z46 :: z47 :: z48 :: z49 :: z50 :: z51 :: z52 :: z53 :: z54 :: z55 :: z56 :: z57 :: z58 :: z59 :: z60 :: z61 :: z62 :: z63 :: z64 :: z65 :: z66 :: z67 :: z68 :: z69 :: z70 :: z71 :: z72 :: z73 :: z74 :: z75 :: z76 :: z77 :: z78 :: z79 :: z80 :: z81 :: z82 :: z83 :: z84 :: z85 :: z86 :: z87 :: z88 :: z89 :: z90 :: z91 :: z92 :: z93 :: z94 :: z95 :: z96 :: z97 :: z98 :: z99 :: z100 :: z101 :: z102 :: z103 :: z104 :: z105 :: u106 :: u107 :: u108 :: u109 :: u110 :: u111 :: u112 :: u113 :: u114 :: u115 :: u116 :: u117 :: u118 :: u119 :: u120 :: u121 :: u122 :: u123 :: u124 :: u125 :: u126 :: u127 :: u128 :: z129 :: []).toArray, defers := dfs } W) :
  Code.wp Try.prog (Code.loop mdLoop4) Q0 { tmps := (z0 :: (.int .i64 (R : Int)) :: z2 :: z3 :: z4 :: (.pointer (some ⟨gd, 0, none⟩)) :: (.pointer (some ⟨g6, 0, none⟩)) :: z7 :: z8 :: z9 :: z10 :: z11 :: z12 :: z13 :: z14 :: z15 :: z16 :: (.int .i64 0) :: z18 :: z19 :: z20 :: z21 :: z22 :: z23 :: z24 :: z25 :: z26 :: z27 :: z28 :: z29 :: z30 :: z31 :: z32 :: z33 :: z34 :: z35 :: z36 :: z37 :: z38 :: z39 :: z40 :: z41 :: z42 :: z43 :: z44 :: z45 :: z46 :: z47 :: z48 :: z49 :: z50 :: z51 :: z52 :: z53 :: z54 :: z55 :: z56 :: z57 :: z58 :: z59 :: z60 :: z61 :: z62 :: z63 :: z64 :: z65 :: z66 :: z67 :: z68 :: z69 :: z70 :: z71 :: z72 :: z73 :: z74 :: z75 :: z76 :: z77 :: z78 :: z79 :: z80 :: z81 :: z82 :: z83 :: z84 :: z85 :: z86 :: z87 :: z88 :: z89 :: z90 :: z91 :: z92 :: z93 :: z94 :: z95 :: z96 :: z97 :: z98 :: z99 :: z100 :: z101 :: z102 :: z103 :: z104 :: z105 :: u106 :: u107 :: u108 :: u109 :: u110 :: u111 :: u112 :: u113 :: u114 :: u115 :: u116 :: u117 :: u118 :: u119 :: u120 :: u121 :: u122 :: u123 :: u124 :: u125 :: u126 :: u127 :: u128 :: z129 :: []).toArray, defers := dfs } wh := by
 have HR := lH_ hR
 have HCS := lH_ hcs
 have HOKC := lH_ hokc
 have HAN := lH_ han
 have NEB4 := lH_ ne4
 have NEB6 := lH_ ne6
 have N46 := lH_ n46
 have HG6 := lH_ hg6
 have HEX := lH_ hex
 clear hcs hokc han ne4 ne6 n46 hg6 hex hR
 refine loop_acts (fun a W => ∃ (k : Nat) (u106 u107 u108 u109 u110 u111 u112 u113 u114 u115 u116 u117 u118 u119 u120 u121 u122 u123 u124 u125 u126 u127 u128 : Value) (dls : List Dl) (vd : Value), k ≤ R ∧ a = { tmps := (z0 :: (.int .i64 (R : Int)) :: z2 :: z3 :: z4 :: (.pointer (some ⟨gd, 0, none⟩)) :: (.pointer (some ⟨g6, 0, none⟩)) :: z7 :: z8 :: z9 :: z10 :: z11 :: z12 :: z13 :: z14 :: z15 :: z16 :: (.int .i64 (k : Int)) :: z18 :: z19 :: z20 :: z21 :: z22 :: z23 :: z24 :: z25 :: z26 :: z27 :: z28 :: z29 :: z30 :: z31 :: z32 :: z33 :: z34 :: z35 :: z36 :: z37 :: z38 :: z39 :: z40 :: z41 :: z42 :: z43 :: z44 :: z45 :: z46 :: z47 :: z48 :: z49 :: z50 :: z51 :: z52 :: z53 :: z54 :: z55 :: z56 :: z57 :: z58 :: z59 :: z60 :: z61 :: z62 :: z63 :: z64 :: z65 :: z66 :: z67 :: z68 :: z69 :: z70 :: z71 :: z72 :: z73 :: z74 :: z75 :: z76 :: z77 :: z78 :: z79 :: z80 :: z81 :: z82 :: z83 :: z84 :: z85 :: z86 :: z87 :: z88 :: z89 :: z90 :: z91 :: z92 :: z93 :: z94 :: z95 :: z96 :: z97 :: z98 :: z99 :: z100 :: z101 :: z102 :: z103 :: z104 :: z105 :: u106 :: u107 :: u108 :: u109 :: u110 :: u111 :: u112 :: u113 :: u114 :: u115 :: u116 :: u117 :: u118 :: u119 :: u120 :: u121 :: u122 :: u123 :: u124 :: u125 :: u126 :: u127 :: u128 :: z129 :: []).toArray, defers := dfs } ∧ Hid (InM w gd g4 g6 A c l cs an hg adv vc va (k) (dls) (vd) W)) (fun a _ => R - (intOf (a.tmps.getD 17 undef)).toNat) ?_ ?_
 ·exact ⟨0, u106, u107, u108, u109, u110, u111, u112, u113, u114, u115, u116, u117, u118, u119, u120, u121, u122, u123, u124, u125, u126, u127, u128, [], .slice none 0 0, Nat.zero_le _, rfl, lH_ h0⟩
 obtain ⟨Ac, kc, rfl⟩ := Kd.R_slice h0.rc
 obtain ⟨Aa, ka, rfl⟩ := Kd.R_slice h0.ra
 clear h0
 rintro Kn a W ⟨k, u106, u107, u108, u109, u110, u111, u112, u113, u114, u115, u116, u117, u118, u119, u120, u121, u122, u123, u124, u125, u126, u127, u128, dls, vd, hk, rfl, HI⟩ HK
 obtain ⟨Ad, kd, rfl⟩ := Kd.R_slice HI.out.rd
 have B4_ := lH_ HI.out.b4
 have B6_ := lH_ HI.out.b6
 have RC_ := lH_ HI.out.rc
 have RA_ := lH_ HI.out.ra
 have RD_ := lH_ HI.out.rd
 have HOKD := lH_ HI.out.ok
 have HDS := lH_ HI.out.dr
 by_cases hlt : k < R
 case neg =>
  obtain rfl : k = R := by omega
  clear HK
  have d1 : decide (k < k) = false := decide_eq_false (Nat.lt_irrefl k)
  have d2 : decide ((k : Int) < (k : Int)) = false := decide_eq_false (by omega)
  conv => arg 2; whnf
  go_wp2_with fail
  exact HEX.out k dls _ _ _ _ _ _ _ _ _ _ _ _ _ _ _ _ _ _ _ _ _ _ _ _ _ HI.out
 have HKK := lH_ HK
 clear HK
 have d1 : decide (k < R) = true := decide_eq_true hlt
 have d2 : decide ((k : Int) < (R : Int)) = true := decide_eq_true (by omega)
 have HKL := lH_ hlt
 have c6 := B6_.out.cell 6
 simp only [gA_, gZ_, gS_] at c6
 by_cases hl2 : dls.length < 2
 case neg =>
  have f1 : decide (dls.length < 2) = false := decide_eq_false hl2
  have f2 : decide ((dls.length : Int) < 2) = false := decide_eq_false (by omega)
  clear hl2 hlt hk
  conv => arg 2; whnf
  go_wp2_with fail
  exact HEX.out k dls _ _ _ _ _ _ _ _ _ _ _ _ _ _ _ _ _ _ _ _ _ _ _ _ _ ⟨HI.out.b4, HI.out.b6, HI.out.rc, HI.out.ra, HI.out.rd, HI.out.dr, ⟨HOKD.out.1, dlB_mono _ k R _ (by have := HKL.out; omega) _ _ HOKD.out.2⟩⟩
 have f1 : decide (dls.length < 2) = true := decide_eq_true hl2
 have f2 : decide ((dls.length : Int) < 2) = true := decide_eq_true (by omega)
 have HLD2 := lH_ hl2
 clear hl2 hlt hk
 conv => arg 2; whnf
 go_wp2_with fail
 clear HI c6
 obtain ⟨p0, hdp⟩ := HDS.out
 have HD := lH_ hdp
 clear hdp HDS d1 d2 f1 f2
 refine (next_any w gd A c l p0 2 W (by omega) (by omega) HD.out).mono ?_
 rintro e W2 ⟨r2, p, rfl, hr2, hs, hd⟩
 replace B4_ := lH_ (hs.blk B4_.out B4_.out.lt NEB4.out)
 replace B6_ := lH_ (hs.blk B6_.out B6_.out.lt NEB6.out)
 replace RC_ := lH_ (Sc.R RC_.out HD.out.box (by decide) hs)
 replace RA_ := lH_ (Sc.R RA_.out HD.out.box (by decide) hs)
 replace RD_ := lH_ (Sc.R RD_.out HD.out.box (by decide) hs)
 have HDR := lH_ hd
 clear hs hd HD
 have hk5 : k < 5 := by have := HKL.out; have := HR.out; omega
 by_cases h1 : r2 = 1
 case neg =>
  have g1 : decide (r2 = 1) = false := decide_eq_false h1
  have g2 : (r2 == 1) = false := by simpa using h1
  clear h1 hr2
  go_wp2_with fail
  exact HKK.out _ _ ⟨k + 1, _, _, _, _, _, _, _, _, _, _, _, _, _, _, _, _, _, _, _, _, _, _, _, dls, .slice Ad dls.length kd, HKL.out, eq_of1 (fun k_ => ({ tmps := (z0 :: (.int .i64 (R : Int)) :: z2 :: z3 :: z4 :: (.pointer (some ⟨gd, 0, none⟩)) :: (.pointer (some ⟨g6, 0, none⟩)) :: z7 :: z8 :: z9 :: z10 :: z11 :: z12 :: z13 :: z14 :: z15 :: z16 :: (.int .i64 k_) :: z18 :: z19 :: z20 :: z21 :: z22 :: z23 :: z24 :: z25 :: z26 :: z27 :: z28 :: z29 :: z30 :: z31 :: z32 :: z33 :: z34 :: z35 :: z36 :: z37 :: z38 :: z39 :: z40 :: z41 :: z42 :: z43 :: z44 :: z45 :: z46 :: z47 :: z48 :: z49 :: z50 :: z51 :: z52 :: z53 :: z54 :: z55 :: z56 :: z57 :: z58 :: z59 :: z60 :: z61 :: z62 :: z63 :: z64 :: z65 :: z66 :: z67 :: z68 :: z69 :: z70 :: z71 :: z72 :: z73 :: z74 :: z75 :: z76 :: z77 :: z78 :: z79 :: z80 :: z81 :: z82 :: z83 :: z84 :: z85 :: z86 :: z87 :: z88 :: z89 :: z90 :: z91 :: z92 :: z93 :: z94 :: z95 :: z96 :: z97 :: z98 :: z99 :: z100 :: z101 :: z102 :: z103 :: z104 :: z105 :: _ :: _ :: _ :: _ :: _ :: _ :: _ :: _ :: _ :: _ :: _ :: _ :: _ :: _ :: _ :: _ :: _ :: _ :: _ :: _ :: _ :: _ :: _ :: z129 :: []).toArray, defers := dfs } : Act)) (a := (k : Int) + 1) (a' := ((k + 1 : Nat) : Int)) (show (k : Int) + 1 = ((k + 1 : Nat) : Int) by omega), lH_ ⟨B4_.out, B6_.out, RC_.out, RA_.out, RD_.out, ⟨_, HDR.out⟩, dls_next HOKD.out⟩⟩ (lt_mu17 rfl rfl (show (k : Int) + 1 = ((k + 1 : Nat) : Int) by omega) HKL.out)
 subst h1
 clear hr2
 go_upto_region 29 with fail
 have HK1 := lH_ (Kd.R_reads' RC_.out).2.1
 have HK2 := lH_ (Kd.R_reads' RA_.out).2.1
 have HK3 := lH_ (Kd.R_reads' RD_.out).2.1
 have HF1 := lH_ (show cs.length ≤ 1000000 by have := HCS.out; omega)
 have HF2 := lH_ (show an.length ≤ 1000000 by have := HAN.out; omega)
 have hp5 := ptsN_le5 cs (fun c_ hc => (HOKC.out c_ hc).1.2)
 have HF3 := lH_ (show ptsN cs ≤ 1000000 by have := HCS.out; omega)
 have HFP : Hid ((⟨cs, an, hg, adv, dls, []⟩ : Gl).pts ≤ 40) := lH_ (by unfold Gl.pts; dsimp only; have := HCS.out; have := HAN.out; omega)
 clear hp5
 have HLD := lH_ (show dls.length ≤ 2 by have := HLD2.out; omega)
 refine start_ (n := 10) (S := fun w' => True) (ds := []) #[false, false, false, false, false, false, false, false, false, false] (by kernel_rfl) rfl rfl trivial (fun hHeld => ?_)
 refine with_tabW oMe29.tab29 oMe29.bits29 (fun HT_ HW_ => ?_)
 have HB : Aside0 (Below w.heap.size w W2.drew) := ⟨bdrew HDR.out.below⟩
 have HZ : Aside0 (W2.heap.size ≤ W2.drew.heap.size) := ⟨Nat.le_refl _⟩
 have B4 : Aside0 (Blk W2.drew g4 #[.slice none 0 0, .slice none 0 0, .int .i64 0, .int .i64 0, .int .i64 0, .int .i64 0, .slice none 0 0, .slice none 0 0] 29) := ⟨B4_.out.drew⟩
 have B6 : Aside0 (Blk W2.drew g6 #[.slice Ac cs.length kc, .slice Aa an.length ka, .int .i64 hg.a, .int .i64 hg.b, .int .i64 hg.c, .int .i64 adv, .slice Ad dls.length kd, .slice none 0 0] 29) := ⟨B6_.out.drew⟩
 have RC : Aside0 (Kd.R kCt 71 W2.drew w.heap.size (fun _ => True) (.slice Ac cs.length kc) cs) := ⟨Kd.R_below RC_.out (below_drew (Below.refl _ _))⟩
 have RA : Aside0 (Kd.R kI3 25 W2.drew w.heap.size (fun _ => True) (.slice Aa an.length ka) an) := ⟨Kd.R_below RA_.out (below_drew (Below.refl _ _))⟩
 have RD : Aside0 (Kd.R kDl 59 W2.drew w.heap.size (fun _ => True) (.slice Ad dls.length kd) dls) := ⟨Kd.R_below RD_.out (below_drew (Below.refl _ _))⟩
 have DD : Aside0 (Dr w gd A c l p W2.drew) := ⟨HDR.out.below_ (below_drew (Below.refl _ _))⟩
 generalize hwd : W2.drew = w1' at *
 clear hwd
 refine inv_at [0, 1, 2, 3, 4, 5, 6, 7, 8, 9] (fun a0_ b a w' => ∃ (p : Nat) (av : Int) (mv : Value) (ms : List I2) (ge : Nat) (v1 : Value) (m5_ : Value) (m6_ : Value), a = putSel a0_ b [(0, 120, .pointer (some ⟨g6, 6, none⟩)), (1, 121, .slice Ad dls.length kd), (2, 122, .agg #[.slice Ac cs.length kc, .slice Aa an.length ka, .int .i64 hg.a, .int .i64 hg.b, .int .i64 hg.c, .int .i64 adv, .slice Ad dls.length kd, .slice none 0 0]), (3, 123, .int .i64 (k : Int)), (4, 124, .pointer (some ⟨gd, 0, none⟩)), (5, 125, m5_), (6, 126, m6_), (7, 127, v1), (8, 128, .pointer (some ⟨g6, 6, none⟩))] ∧ (Below w.heap.size w w') ∧ (W2.heap.size ≤ w'.heap.size) ∧ (Blk w' g4 #[.slice none 0 0, .slice none 0 0, .int .i64 0, .int .i64 0, .int .i64 0, .int .i64 0, .slice none 0 0, .slice none 0 0] 29) ∧ (b 9 = false → Blk w' g6 #[.slice Ac cs.length kc, .slice Aa an.length ka, .int .i64 hg.a, .int .i64 hg.b, .int .i64 hg.c, .int .i64 adv, .slice Ad dls.length kd, .slice none 0 0] 29) ∧ (Kd.R kCt 71 w' w.heap.size (fun _ => True) (.slice Ac cs.length kc) cs) ∧ (Kd.R kI3 25 w' w.heap.size (fun _ => True) (.slice Aa an.length ka) an) ∧ (b 7 = false → Kd.R kDl 59 w' w.heap.size (fun _ => True) (.slice Ad dls.length kd) dls) ∧ (Dr w gd A c l p w') ∧ (b 5 = true → -10 ≤ av ∧ av ≤ 20) ∧ (b 5 = true → MvOk ⟨cs, an, hg, adv, dls, []⟩ ms) ∧ (b 5 = true → Kd.R kI2 62 w' W2.heap.size (fun _ => True) mv ms) ∧ (b 6 = true → b 7 = false → Blk w' ge #[.int .i64 (k : Int), .int .i64 av, mv] 59) ∧ (b 6 = true → w.heap.size ≤ ge) ∧ (b 7 = true → Kd.R kDl 59 w' w.heap.size (fun _ => True) v1 (dls ++ [⟨(k : Int), av, ms⟩])) ∧ (b 9 = true → Blk w' g6 #[.slice Ac cs.length kc, .slice Aa an.length ka, .int .i64 hg.a, .int .i64 hg.b, .int .i64 hg.c, .int .i64 adv, v1, .slice none 0 0] 29) ∧ (b 5 = true → (m5_ : Value) = .agg #[.int .i64 (k : Int), .int .i64 av, mv]) ∧ (b 6 = true → (m6_ : Value) = .slice (some ⟨ge, 0, none⟩) 1 1)) HT_.out HW_.out (by kernel_rfl) (by kernel_rfl) ?_ ?_ ?_
 ·exact ⟨p, 0, undef, [], 0, undef, .bool false, .bool false, by simp only [putSel, Bool.false_eq_true, if_false], HB.out, HZ.out, B4.out, fun _ => B6.out, RC.out, RA.out, fun _ => RD.out, DD.out, fun h_ => absurd h_ (by decide), fun h_ => absurd h_ (by decide), fun h_ => absurd h_ (by decide), fun h_ => absurd h_ (by decide), fun h_ => absurd h_ (by decide), fun h_ => absurd h_ (by decide), fun h_ => absurd h_ (by decide), fun h_ => absurd h_ (by decide), fun h_ => absurd h_ (by decide)⟩
 ·skip
  clear B4 B6 DD HB HZ RA RC RD
  refine steps_cons ?_ ?_
  ·rintro b a w' ⟨p, av, mv, ms, ge, v1, m5_, m6_, ha, QHB, QHZ, QB4, QB6, QRC, QRA, QRD, QDD, QNA, QNM, QRM, QEB, QLge, QRE, QB7, QX5_, QX6_⟩ hb_ hon hoff
   refine ⟨_, rfl, fun K hK => ?_⟩
   have e6 : a.tmps[6]? = some (.pointer (some ⟨g6, 0, none⟩)) := by rw [ha]; exact (putSel_off rfl).trans rfl
   replace ha := aM_ ha
   have HB := aM_ QHB
   have HZ := aM_ QHZ
   have B4 := aM_ QB4
   have B6 := aM_ (QB6 (hoff 9 rfl))
   have RC := aM_ QRC
   have RA := aM_ QRA
   have RD := aM_ (QRD (hoff 7 rfl))
   have DD := aM_ QDD
   refine value_ (w1 := w') (v := .pointer (some ⟨g6, 6, none⟩)) (by rfl) rfl ?_ ?_
   ·go_simp
    (try simp only [i64_w])
    try rfl
    try assumption
   refine hK.out _ _ ⟨p, av, mv, ms, ge, v1, m5_, m6_, (by rw [ha.out]; exact putSel_upk 0 hb_ rfl rfl rfl), QHB, QHZ, QB4, QB6, QRC, QRA, QRD, QDD, QNA, QNM, QRM, QEB, QLge, dD_ (hoff 7 rfl), dD_ (hoff 9 rfl), QX5_, QX6_⟩
  refine steps_cons ?_ ?_
  ·rintro b a w' ⟨p, av, mv, ms, ge, v1, m5_, m6_, ha, QHB, QHZ, QB4, QB6, QRC, QRA, QRD, QDD, QNA, QNM, QRM, QEB, QLge, QRE, QB7, QX5_, QX6_⟩ hb_ hon hoff
   refine ⟨_, rfl, fun K hK => ?_⟩
   have e120 : a.tmps[120]? = some (.pointer (some ⟨g6, 6, none⟩)) := by rw [ha]; exact putSel_on (e := (0, 120, .pointer (some ⟨g6, 6, none⟩))) 0 rfl rfl (hon 0 rfl) rfl
   replace ha := aM_ ha
   have HB := aM_ QHB
   have HZ := aM_ QHZ
   have B4 := aM_ QB4
   have B6 := aM_ (QB6 (hoff 9 rfl))
   have RC := aM_ QRC
   have RA := aM_ QRA
   have RD := aM_ (QRD (hoff 7 rfl))
   have DD := aM_ QDD
   have q6 := B6.out.cell 6
   refine value_ (w1 := w') (v := .slice Ad dls.length kd) (by rfl) rfl ?_ ?_
   ·go_simp
    (try simp only [i64_w])
    try rfl
    try assumption
   refine hK.out _ _ ⟨p, av, mv, ms, ge, v1, m5_, m6_, (by rw [ha.out]; exact putSel_upk 1 hb_ rfl rfl rfl), QHB, QHZ, QB4, QB6, QRC, QRA, QRD, QDD, QNA, QNM, QRM, QEB, QLge, dD_ (hoff 7 rfl), dD_ (hoff 9 rfl), QX5_, QX6_⟩
  refine steps_cons ?_ ?_
  ·rintro b a w' ⟨p, av, mv, ms, ge, v1, m5_, m6_, ha, QHB, QHZ, QB4, QB6, QRC, QRA, QRD, QDD, QNA, QNM, QRM, QEB, QLge, QRE, QB7, QX5_, QX6_⟩ hb_ hon hoff
   refine ⟨_, rfl, fun K hK => ?_⟩
   have e6 : a.tmps[6]? = some (.pointer (some ⟨g6, 0, none⟩)) := by rw [ha]; exact (putSel_off rfl).trans rfl
   replace ha := aM_ ha
   have HB := aM_ QHB
   have HZ := aM_ QHZ
   have B4 := aM_ QB4
   have B6 := aM_ (QB6 (hoff 9 rfl))
   have RC := aM_ QRC
   have RA := aM_ QRA
   have RD := aM_ (QRD (hoff 7 rfl))
   have DD := aM_ QDD
   have q0 := B6.out.cell 0
   have q1 := B6.out.cell 1
   have q2 := B6.out.cell 2
   have q3 := B6.out.cell 3
   have q4 := B6.out.cell 4
   have q5 := B6.out.cell 5
   have q6 := B6.out.cell 6
   have q7 := B6.out.cell 7
   refine value_ (w1 := w') (v := .agg #[.slice Ac cs.length kc, .slice Aa an.length ka, .int .i64 hg.a, .int .i64 hg.b, .int .i64 hg.c, .int .i64 adv, .slice Ad dls.length kd, .slice none 0 0]) (by rfl) rfl ?_ ?_
   ·go_simp
    (try simp only [i64_w])
    try rfl
    try assumption
   refine hK.out _ _ ⟨p, av, mv, ms, ge, v1, m5_, m6_, (by rw [ha.out]; exact putSel_upk 2 hb_ rfl rfl rfl), QHB, QHZ, QB4, QB6, QRC, QRA, QRD, QDD, dD_ (hoff 5 rfl), dD_ (hoff 5 rfl), dD_ (hoff 5 rfl), dD_ (hoff 6 rfl), dD_ (hoff 6 rfl), dD_ (hoff 7 rfl), dD_ (hoff 9 rfl), dD_ (hoff 5 rfl), dD_ (hoff 6 rfl)⟩
  refine steps_cons ?_ ?_
  ·rintro b a w' ⟨p, av, mv, ms, ge, v1, m5_, m6_, ha, QHB, QHZ, QB4, QB6, QRC, QRA, QRD, QDD, QNA, QNM, QRM, QEB, QLge, QRE, QB7, QX5_, QX6_⟩ hb_ hon hoff
   refine ⟨_, rfl, fun K hK => ?_⟩
   have e17 : a.tmps[17]? = some (.int .i64 (k : Int)) := by rw [ha]; exact (putSel_off rfl).trans rfl
   replace ha := aM_ ha
   have HB := aM_ QHB
   have HZ := aM_ QHZ
   have B4 := aM_ QB4
   have B6 := aM_ (QB6 (hoff 9 rfl))
   have RC := aM_ QRC
   have RA := aM_ QRA
   have RD := aM_ (QRD (hoff 7 rfl))
   have DD := aM_ QDD
   refine value_ (w1 := w') (v := .int .i64 (k : Int)) (by rfl) rfl ?_ ?_
   ·go_simp
    (try simp only [i64_w])
    try rfl
    try assumption
   refine hK.out _ _ ⟨p, av, mv, ms, ge, v1, m5_, m6_, (by rw [ha.out]; exact putSel_upk 3 hb_ rfl rfl rfl), QHB, QHZ, QB4, QB6, QRC, QRA, QRD, QDD, dD_ (hoff 5 rfl), dD_ (hoff 5 rfl), dD_ (hoff 5 rfl), dD_ (hoff 6 rfl), dD_ (hoff 6 rfl), dD_ (hoff 7 rfl), dD_ (hoff 9 rfl), dD_ (hoff 5 rfl), dD_ (hoff 6 rfl)⟩
  refine steps_cons ?_ ?_
  ·rintro b a w' ⟨p, av, mv, ms, ge, v1, m5_, m6_, ha, QHB, QHZ, QB4, QB6, QRC, QRA, QRD, QDD, QNA, QNM, QRM, QEB, QLge, QRE, QB7, QX5_, QX6_⟩ hb_ hon hoff
   refine ⟨_, rfl, fun K hK => ?_⟩
   have e5 : a.tmps[5]? = some (.pointer (some ⟨gd, 0, none⟩)) := by rw [ha]; exact (putSel_off rfl).trans rfl
   replace ha := aM_ ha
   have HB := aM_ QHB
   have HZ := aM_ QHZ
   have B4 := aM_ QB4
   have B6 := aM_ (QB6 (hoff 9 rfl))
   have RC := aM_ QRC
   have RA := aM_ QRA
   have RD := aM_ (QRD (hoff 7 rfl))
   have DD := aM_ QDD
   refine value_ (w1 := w') (v := .pointer (some ⟨gd, 0, none⟩)) (by rfl) rfl ?_ ?_
   ·go_simp
    (try simp only [i64_w])
    try rfl
    try assumption
   refine hK.out _ _ ⟨p, av, mv, ms, ge, v1, m5_, m6_, (by rw [ha.out]; exact putSel_upk 4 hb_ rfl rfl rfl), QHB, QHZ, QB4, QB6, QRC, QRA, QRD, QDD, dD_ (hoff 5 rfl), dD_ (hoff 5 rfl), dD_ (hoff 5 rfl), dD_ (hoff 6 rfl), dD_ (hoff 6 rfl), dD_ (hoff 7 rfl), dD_ (hoff 9 rfl), dD_ (hoff 5 rfl), dD_ (hoff 6 rfl)⟩
  refine steps_cons ?_ ?_
  ·rintro b a w' ⟨p, av, mv, ms, ge, v1, m5_, m6_, ha, QHB, QHZ, QB4, QB6, QRC, QRA, QRD, QDD, QNA, QNM, QRM, QEB, QLge, QRE, QB7, QX5_, QX6_⟩ hb_ hon hoff
   refine ⟨_, rfl, fun K hK => ?_⟩
   have e122 : a.tmps[122]? = some (.agg #[.slice Ac cs.length kc, .slice Aa an.length ka, .int .i64 hg.a, .int .i64 hg.b, .int .i64 hg.c, .int .i64 adv, .slice Ad dls.length kd, .slice none 0 0]) := by rw [ha]; exact putSel_on (e := (2, 122, .agg #[.slice Ac cs.length kc, .slice Aa an.length ka, .int .i64 hg.a, .int .i64 hg.b, .int .i64 hg.c, .int .i64 adv, .slice Ad dls.length kd, .slice none 0 0])) 2 rfl rfl (hon 2 rfl) rfl
   have e123 : a.tmps[123]? = some (.int .i64 (k : Int)) := by rw [ha]; exact putSel_on (e := (3, 123, .int .i64 (k : Int))) 3 rfl rfl (hon 3 rfl) rfl
   have e124 : a.tmps[124]? = some (.pointer (some ⟨gd, 0, none⟩)) := by rw [ha]; exact putSel_on (e := (4, 124, .pointer (some ⟨gd, 0, none⟩))) 4 rfl rfl (hon 4 rfl) rfl
   replace ha := aM_ ha
   have HB := aM_ QHB
   have HZ := aM_ QHZ
   have B4 := aM_ QB4
   have B6 := aM_ (QB6 (hoff 9 rfl))
   have RC := aM_ QRC
   have RA := aM_ QRA
   have RD := aM_ (QRD (hoff 7 rfl))
   have DD := aM_ QDD
   refine call_ 65 #[.agg #[.slice Ac cs.length kc, .slice Aa an.length ka, .int .i64 hg.a, .int .i64 hg.b, .int .i64 hg.c, .int .i64 adv, .slice Ad dls.length kd, .slice none 0 0], .int .i64 (k : Int), .pointer (some ⟨gd, 0, none⟩)] (by rfl) rfl ?_ ?_
   ·go_simp
   refine (moves_any ⟨cs, an, hg, adv, dls, []⟩ ⟨Ac, kc, Aa, ka, Ad, kd, none, 0⟩ (k : Int) w gd A c l p w' (fun w3_ hs_ => ⟨(Kd.R_reads' (Sc.R RC.out DD.out.box (by decide) hs_)).2.2, (Kd.R_reads' (Sc.R RA.out DD.out.box (by decide) hs_)).2.2, (Kd.R_reads' (Sc.R RD.out DD.out.box (by decide) hs_)).2.2, Kd.C_nil _ _, HK1.out, HK2.out, HK3.out, Nat.le_refl 0⟩) HF1.out HF2.out HF3.out HFP.out HB.out.size DD.out).mono ?_
   rintro e w2' ⟨xav, xms, xv, rfl, hav, hmv, hrm, hs, p', hd'⟩
   refine ⟨_, rfl, ?_⟩
   refine hK.out _ _ ⟨p', xav, xv, xms, ge, v1, (.agg #[.int .i64 (k : Int), .int .i64 xav, xv]), m6_, (by rw [ha.out]; exact putSel_upk 5 hb_ rfl rfl rfl), HB.out.trans (hs.below.mono DD.out.far), Nat.le_trans HZ.out hs.size, hs.blk B4.out B4.out.lt NEB4.out, fun _ => hs.blk B6.out B6.out.lt NEB6.out, Sc.R RC.out DD.out.box (by decide) hs, Sc.R RA.out DD.out.box (by decide) hs, fun _ => Sc.R RD.out DD.out.box (by decide) hs, hd', fun _ => hav, fun _ => hmv, fun _ => Kd.R_lower hrm HZ.out, dD_ (hoff 6 rfl), dD_ (hoff 6 rfl), dD_ (hoff 7 rfl), dD_ (hoff 9 rfl), fun _ => rfl, dD_ (hoff 6 rfl)⟩
  refine steps_cons ?_ ?_
  ·rintro b a w' ⟨p, av, mv, ms, ge, v1, m5_, m6_, ha, QHB, QHZ, QB4, QB6, QRC, QRA, QRD, QDD, QNA, QNM, QRM, QEB, QLge, QRE, QB7, QX5_, QX6_⟩ hb_ hon hoff
   refine ⟨_, rfl, fun K hK => ?_⟩
   have e125 : a.tmps[125]? = some (m5_) := by rw [ha]; exact putSel_on (e := (5, 125, m5_)) 5 rfl rfl (hon 5 rfl) rfl
   rw [QX5_ (hon 5 rfl)] at e125
   replace ha := aM_ ha
   have HB := aM_ QHB
   have HZ := aM_ QHZ
   have B4 := aM_ QB4
   have B6 := aM_ (QB6 (hoff 9 rfl))
   have RC := aM_ QRC
   have RA := aM_ QRA
   have RD := aM_ (QRD (hoff 7 rfl))
   have DD := aM_ QDD
   have NA := aM_ (QNA (hon 5 rfl))
   have NM := aM_ (QNM (hon 5 rfl))
   have RM := aM_ (QRM (hon 5 rfl))
   refine value_ (w1 := w'.alloc (.cells #[.int .i64 (k : Int), .int .i64 av, mv] 59)) (v := .slice (some ⟨w'.heap.size, 0, none⟩) 1 1) (by rfl) rfl ?_ ?_
   ·go_simp
   refine hK.out _ _ ⟨p, av, mv, ms, w'.heap.size, v1, m5_, (.slice (some ⟨w'.heap.size, 0, none⟩) 1 1), (by rw [ha.out]; exact putSel_upk 6 hb_ rfl rfl rfl), bthen' HB.out (below_alloc (Below.refl _ w') _), Nat.le_trans HZ.out (by simp), B4.out.alloc _, fun _ => B6.out.alloc _, Kd.R_below RC.out (below_alloc (Below.refl _ w') _), Kd.R_below RA.out (below_alloc (Below.refl _ w') _), fun _ => Kd.R_below RD.out (below_alloc (Below.refl _ w') _), DD.out.below_ (below_alloc (Below.refl _ w') _), QNA, QNM, fun _ => Kd.R_below RM.out (below_alloc (Below.refl _ w') _), fun _ _ => Blk.new w' _ _ rfl, fun _ => HB.out.size, dD_ (hoff 7 rfl), dD_ (hoff 9 rfl), QX5_, fun _ => rfl⟩
  refine steps_cons ?_ ?_
  ·rintro b a w' ⟨p, av, mv, ms, ge, v1, m5_, m6_, ha, QHB, QHZ, QB4, QB6, QRC, QRA, QRD, QDD, QNA, QNM, QRM, QEB, QLge, QRE, QB7, QX5_, QX6_⟩ hb_ hon hoff
   refine ⟨_, rfl, fun K hK => ?_⟩
   have e121 : a.tmps[121]? = some (.slice Ad dls.length kd) := by rw [ha]; exact putSel_on (e := (1, 121, .slice Ad dls.length kd)) 1 rfl rfl (hon 1 rfl) rfl
   have e126 : a.tmps[126]? = some (m6_) := by rw [ha]; exact putSel_on (e := (6, 126, m6_)) 6 rfl rfl (hon 6 rfl) rfl
   rw [QX6_ (hon 6 rfl)] at e126
   replace ha := aM_ ha
   have HB := aM_ QHB
   have HZ := aM_ QHZ
   have B4 := aM_ QB4
   have B6 := aM_ (QB6 (hoff 9 rfl))
   have RC := aM_ QRC
   have RA := aM_ QRA
   have RD := aM_ (QRD hb_)
   have DD := aM_ QDD
   have NA := aM_ (QNA (hon 5 rfl))
   have NM := aM_ (QNM (hon 5 rfl))
   have RM := aM_ (QRM (hon 5 rfl))
   have EB := aM_ (QEB (hon 6 rfl) hb_)
   have Lge := aM_ (QLge (hon 6 rfl))
   obtain ⟨Am, km, hmv2⟩ := Kd.R_slice RM.out
   have hok_ : ∀ k_, (fun k_ => True ∧ W2.heap.size ≤ k_ ∧ k_ < w'.heap.size ∧ ∃ q, q ∈ 62 :: kI2.E ∧ ∃ cells, w'.heap[k_]? = some (.cells cells q (0, 0))) k_ → True ∧ some k_ ≠ (Value.slice Ad dls.length kd).ownBlock := fun k_ h_ => ⟨trivial, fun e => by have h1 := (Kd.R_bound RD_.out).1 k_ e.symm; have h2 := h_.2.1; have h3 := h1.2.2.1; omega⟩
   have hp_ : kDl.M w' w.heap.size (fun k_ => True ∧ W2.heap.size ≤ k_ ∧ k_ < w'.heap.size ∧ ∃ q, q ∈ 62 :: kI2.E ∧ ∃ cells, w'.heap[k_]? = some (.cells cells q (0, 0))) ⟨(k : Int), av, ms⟩ [.int .i64 (k : Int), .int .i64 av, mv] := kDl_mkM (Kd.R_lower (Kd.R_bound RM.out) HDR.out.below.size)
   obtain ⟨vv, w2, hr, o1, o2, o3⟩ := append_kd2 26 59 _ 40 (by kernel_rfl) infoDl rfl (by decide) (by omega) RD.out HB.out HB.out.size ge ⟨(k : Int), av, ms⟩ _ EB.out hp_ hok_ (by have := HLD.out; omega)
   refine value_ (w1 := w2) (v := vv) (by rfl) rfl ?_ ?_
   ·exact run_append_opU (by rfl) e121 e126 hr
   refine hK.out _ _ ⟨p, av, mv, ms, ge, vv, m5_, m6_, (by rw [ha.out]; exact putSel_upk 7 hb_ rfl rfl rfl), o2, Nat.le_trans HZ.out (grown_size o3), (o3.block g4 B4.out.lt (Kd.R_ne RD.out B4.out (by decide))).trans B4.out, fun _ => (o3.block g6 B6.out.lt (Kd.R_ne RD.out B6.out (by decide))).trans B6.out, R_grown_types RC.out RD.out (by decide) o3, R_grown_types RA.out RD.out (by decide) o3, dE_ (up_self b 7), ⟨(o3.block gd DD.out.box.lt (Kd.R_ne RD.out DD.out.box (by decide))).trans DD.out.box, DD.out.row, DD.out.at_, DD.out.far, o2⟩, QNA, QNM, fun _ => R_grown_types RM.out RD.out (by decide) o3, fun _ => dE_ (up_self b 7), QLge, fun _ => o1, dD_ (hoff 9 rfl), QX5_, QX6_⟩
  refine steps_cons ?_ ?_
  ·rintro b a w' ⟨p, av, mv, ms, ge, v1, m5_, m6_, ha, QHB, QHZ, QB4, QB6, QRC, QRA, QRD, QDD, QNA, QNM, QRM, QEB, QLge, QRE, QB7, QX5_, QX6_⟩ hb_ hon hoff
   refine ⟨_, rfl, fun K hK => ?_⟩
   have e6 : a.tmps[6]? = some (.pointer (some ⟨g6, 0, none⟩)) := by rw [ha]; exact (putSel_off rfl).trans rfl
   replace ha := aM_ ha
   have HB := aM_ QHB
   have HZ := aM_ QHZ
   have B4 := aM_ QB4
   have B6 := aM_ (QB6 (hoff 9 rfl))
   have RC := aM_ QRC
   have RA := aM_ QRA
   have DD := aM_ QDD
   have NA := aM_ (QNA (hon 5 rfl))
   have NM := aM_ (QNM (hon 5 rfl))
   have RM := aM_ (QRM (hon 5 rfl))
   have Lge := aM_ (QLge (hon 6 rfl))
   have RE := aM_ (QRE (hon 7 rfl))
   refine value_ (w1 := w') (v := .pointer (some ⟨g6, 6, none⟩)) (by rfl) rfl ?_ ?_
   ·go_simp
    (try simp only [i64_w])
    try rfl
    try assumption
   refine hK.out _ _ ⟨p, av, mv, ms, ge, v1, m5_, m6_, (by rw [ha.out]; exact putSel_upk 8 hb_ rfl rfl rfl), QHB, QHZ, QB4, QB6, QRC, QRA, fun h0_ => absurd ((hon 7 rfl).symm.trans h0_) (by decide), QDD, QNA, QNM, QRM, fun _ => dE_ (hon 7 rfl), QLge, QRE, dD_ (hoff 9 rfl), QX5_, QX6_⟩
  refine steps_cons ?_ ?_
  ·rintro b a w' ⟨p, av, mv, ms, ge, v1, m5_, m6_, ha, QHB, QHZ, QB4, QB6, QRC, QRA, QRD, QDD, QNA, QNM, QRM, QEB, QLge, QRE, QB7, QX5_, QX6_⟩ hb_ hon hoff
   refine ⟨_, rfl, fun K hK => ?_⟩
   have e128 : a.tmps[128]? = some (.pointer (some ⟨g6, 6, none⟩)) := by rw [ha]; exact putSel_on (e := (8, 128, .pointer (some ⟨g6, 6, none⟩))) 8 rfl rfl (hon 8 rfl) rfl
   have e127 : a.tmps[127]? = some (v1) := by rw [ha]; exact putSel_on (e := (7, 127, v1)) 7 rfl rfl (hon 7 rfl) rfl
   replace ha := aM_ ha
   have HB := aM_ QHB
   have HZ := aM_ QHZ
   have B4 := aM_ QB4
   have B6 := aM_ (QB6 hb_)
   have RC := aM_ QRC
   have RA := aM_ QRA
   have DD := aM_ QDD
   have NA := aM_ (QNA (hon 5 rfl))
   have NM := aM_ (QNM (hon 5 rfl))
   have RM := aM_ (QRM (hon 5 rfl))
   have Lge := aM_ (QLge (hon 6 rfl))
   have RE := aM_ (QRE (hon 7 rfl))
   have c6 := B6.out.cell 6
   simp only [gA_, gZ_, gS_] at c6
   have f6 := B6.out.frozen 6
   obtain ⟨A2, c2, hv2⟩ := Kd.R_slice RE.out
   have ho : v1.oneCell' = true := by rw [hv2]; rfl
   refine skip_ (w1 := (w'.setCell ⟨g6, 6, none⟩ (v1))) (by rfl) rfl ?_ ?_
   ·go_simp
   refine hK.out _ _ ⟨p, av, mv, ms, ge, v1, m5_, m6_, (by rw [ha.out]; exact putSel_none (v := undef) rfl), (bset HB.out HG6.out 6 (v1)), Nat.le_trans HZ.out (by simp), (B4.out.far N46.out 6 (v1)), dE_ (up_self b 9), (Kd.R_set RC.out B6.out (by decide) 6 (v1)), (Kd.R_set RA.out B6.out (by decide) 6 (v1)), fun h0_ => absurd ((hon 7 rfl).symm.trans h0_) (by decide), ⟨(DD.out.box.far (Ne.symm NEB6.out) 6 (v1)), DD.out.row, DD.out.at_, DD.out.far, (bset HB.out HG6.out 6 (v1))⟩, QNA, QNM, fun _ => (Kd.R_set RM.out B6.out (by decide) 6 (v1)), fun _ => dE_ (hon 7 rfl), QLge, fun _ => (Kd.R_set RE.out B6.out (by decide) 6 (v1)), fun _ => (B6.out.put 6 (v1) rfl), QX5_, QX6_⟩
  exact steps_nil
 ·rintro b a w' hall ⟨p, av, mv, ms, ge, v1, m5_, m6_, ha, QHB, QHZ, QB4, QB6, QRC, QRA, QRD, QDD, QNA, QNM, QRM, QEB, QLge, QRE, QB7, QX5_, QX6_⟩
  clear B4 B6 DD HB HZ RA RC RD
  have hb0_ := hall 0 (by kernel_rfl)
  have hb1_ := hall 1 (by kernel_rfl)
  have hb2_ := hall 2 (by kernel_rfl)
  have hb3_ := hall 3 (by kernel_rfl)
  have hb4_ := hall 4 (by kernel_rfl)
  have hb5_ := hall 5 (by kernel_rfl)
  have hb6_ := hall 6 (by kernel_rfl)
  have hb7_ := hall 7 (by kernel_rfl)
  have hb8_ := hall 8 (by kernel_rfl)
  have hb9_ := hall 9 (by kernel_rfl)
  subst ha
  obtain rfl := QX5_ hb5_
  obtain rfl := QX6_ hb6_
  simp only [putSel, hb0_, hb1_, hb2_, hb3_, hb4_, hb5_, hb6_, hb7_, hb8_, hb9_, if_true, Act.put, List.setIfInBounds_toArray, List.set_cons_zero, List.set_cons_succ]
  have HB := aM_ QHB
  clear QHB
  have HZ := aM_ QHZ
  clear QHZ
  have B4 := aM_ QB4
  clear QB4
  clear QB6
  have RC := aM_ QRC
  clear QRC
  have RA := aM_ QRA
  clear QRA
  clear QRD
  have DD := aM_ QDD
  clear QDD
  have NA := aM_ (QNA hb5_)
  clear QNA
  have NM := aM_ (QNM hb5_)
  clear QNM
  have RM := aM_ (QRM hb5_)
  clear QRM
  clear QEB
  have Lge := aM_ (QLge hb6_)
  clear QLge
  have RE := aM_ (QRE hb7_)
  clear QRE
  have B7 := aM_ (QB7 hb9_)
  clear QB7
  clear hall hb0_ hb1_ hb2_ hb3_ hb4_ hb5_ hb6_ hb7_ hb8_ hb9_
  generalize w' = W5 at *
  have H1 := lH_ B4.out
  have H2 := lH_ B7.out
  have H3 := lH_ RC.out
  have H4 := lH_ RA.out
  have H5 := lH_ RE.out
  have H6 := lH_ DD.out
  have H7 := lH_ (dls_snoc (⟨cs, an, hg, adv, dls, []⟩ : Gl) rfl rfl HOKD.out HLD2.out NA.out NM.out)
  clear HB B4 B7 RC RA RE DD NA NM
  go_wp2_with fail
  exact HKK.out _ _ ⟨k + 1, _, _, _, _, _, _, _, _, _, _, _, _, _, _, _, _, _, _, _, _, _, _, _, _, v1, HKL.out, eq_of1 (fun k_ => ({ tmps := (z0 :: (.int .i64 (R : Int)) :: z2 :: z3 :: z4 :: (.pointer (some ⟨gd, 0, none⟩)) :: (.pointer (some ⟨g6, 0, none⟩)) :: z7 :: z8 :: z9 :: z10 :: z11 :: z12 :: z13 :: z14 :: z15 :: z16 :: (.int .i64 k_) :: z18 :: z19 :: z20 :: z21 :: z22 :: z23 :: z24 :: z25 :: z26 :: z27 :: z28 :: z29 :: z30 :: z31 :: z32 :: z33 :: z34 :: z35 :: z36 :: z37 :: z38 :: z39 :: z40 :: z41 :: z42 :: z43 :: z44 :: z45 :: z46 :: z47 :: z48 :: z49 :: z50 :: z51 :: z52 :: z53 :: z54 :: z55 :: z56 :: z57 :: z58 :: z59 :: z60 :: z61 :: z62 :: z63 :: z64 :: z65 :: z66 :: z67 :: z68 :: z69 :: z70 :: z71 :: z72 :: z73 :: z74 :: z75 :: z76 :: z77 :: z78 :: z79 :: z80 :: z81 :: z82 :: z83 :: z84 :: z85 :: z86 :: z87 :: z88 :: z89 :: z90 :: z91 :: z92 :: z93 :: z94 :: z95 :: z96 :: z97 :: z98 :: z99 :: z100 :: z101 :: z102 :: z103 :: z104 :: z105 :: _ :: _ :: _ :: _ :: _ :: _ :: _ :: _ :: _ :: _ :: _ :: _ :: _ :: _ :: _ :: _ :: _ :: _ :: _ :: _ :: _ :: _ :: _ :: z129 :: []).toArray, defers := dfs } : Act)) (a := (k : Int) + 1) (a' := ((k + 1 : Nat) : Int)) (show (k : Int) + 1 = ((k + 1 : Nat) : Int) by omega), lH_ ⟨H1.out, H2.out, H3.out, H4.out, H5.out, ⟨_, H6.out⟩, H7.out⟩⟩ (lt_mu17 rfl rfl (show (k : Int) + 1 = ((k + 1 : Nat) : Int) by omega) HKL.out)
/- the reference's Made. -/
structure MdOk (R : Nat) (g : Gl) : Prop where
 chk : g.chk R = 0
 pr : g.pr = []
 nd : g.dl.length ≤ 2
 nc : g.ct.length ≤ 2
structure GlO (w : World) (base : Nat) (g : Gl) (h : Hd) : Prop where
 ct : Kd.R kCt 71 w base (fun _ => True) (.slice h.a1 g.ct.length h.c1) g.ct
 an : Kd.R kI3 25 w base (fun _ => True) (.slice h.a2 g.an.length h.c2) g.an
 dl : Kd.R kDl 59 w base (fun _ => True) (.slice h.a3 g.dl.length h.c3) g.dl
 pr : g.pr = [] ∧ h.a4 = none
theorem GlO.glR {w : World} {b : Nat} {g : Gl} {h : Hd} (o : GlO w b g h) : GlR w g h := ⟨(Kd.R_reads' o.ct).2.2, (Kd.R_reads' o.an).2.2, (Kd.R_reads' o.dl).2.2, by rw [o.pr.1, o.pr.2]; exact Kd.C_nil _ _, (Kd.R_reads' o.ct).2.1, (Kd.R_reads' o.an).2.1, (Kd.R_reads' o.dl).2.1, by rw [o.pr.1]; exact Nat.zero_le _⟩
theorem GlO.below {w w1 : World} {b : Nat} {g : Gl} {h : Hd} (o : GlO w b g h) (hb : Below w.heap.size w w1) : GlO w1 b g h := ⟨Kd.R_below o.ct hb, Kd.R_below o.an hb, Kd.R_below o.dl hb, o.pr⟩
theorem GlO.lower {w : World} {b b' : Nat} {g : Gl} {h : Hd} (o : GlO w b g h) (hb : b' ≤ b) : GlO w b' g h := ⟨Kd.R_lower o.ct hb, Kd.R_lower o.an hb, Kd.R_lower o.dl hb, o.pr⟩
theorem GlO.set {w : World} {b gb : Nat} {g : Gl} {h : Hd} {cs : Array Value} (o : GlO w b g h) (B : Blk w gb cs 29) (j : Nat) (v : Value) : GlO (w.setCell ⟨gb, j, none⟩ v) b g h := ⟨Kd.R_set o.ct B (by decide) j v, Kd.R_set o.an B (by decide) j v, Kd.R_set o.dl B (by decide) j v, o.pr⟩
theorem made_chk (cs : List (List Pt)) (an : List I3) (hg : I3) (adv cl : Int) (dls : List Dl) (R : Nat) (hR : R ≤ 3) (h1 : cs.length ≤ 2) (h2 : CsOk cs) (h3 : an.length ≤ 2) (h4 : AnOk cl an) (h5 : 1 ≤ cl ∧ cl ≤ 2) (h6 : HangOk hg) (h7 : 0 ≤ adv ∧ adv ≤ 63) (h8 : DlsOk (an.length + 1 + ptsN cs) hg.a R dls) : MdOk R ⟨cs, an, hg, adv, dls, []⟩ := by
 refine ⟨?_, rfl, h8.1, h1⟩
 have hp := ptsN_le5 cs (fun c_ hc => (h2 c_ hc).1.2)
 unfold Gl.chk
 rw [if_neg (by omega)]
 unfold Gl.chk2
 rw [if_neg (by unfold Gl.pts; dsimp only; omega)]
 unfold Gl.chk3
 have w128 : ∀ x : Int, -10 ≤ x ∧ x ≤ 100 → wiB 128 x = true := fun x h => by unfold wiB; rw [decide_eq_true_eq]; omega
 have hc : ctsB cs = true := by
  unfold ctsB
  rw [any_false ctB cs (fun c_ hc => ?_)]; rfl
  obtain ⟨k1, k2⟩ := h2 c_ hc
  unfold ctB
  rw [decide_eq_false (by omega), any_false _ _ (fun p hp_ => ?_)]; rfl
  obtain ⟨q1, q2, q3, q4⟩ := k2 p hp_
  unfold ptB wi2
  rw [w128 _ ⟨q1, q2⟩, w128 _ ⟨q3, q4⟩]; rfl
 rw [if_neg (by dsimp only; rw [hc]; decide)]
 unfold Gl.chk4
 have ha : ancB an hg = true := by
  have hh : hangB hg = true := by
   unfold hangB
   rcases h6 with rfl | ⟨q1, q2, q3, q4, q5, q6⟩
   ·rfl
   ·rw [if_neg (by omega), decide_eq_true (by omega), decide_eq_true (by omega)]
    unfold wi2
    rw [w128 _ ⟨q3, q4⟩, w128 _ ⟨q5, q6⟩]; rfl
  unfold ancB
  rw [hh, Bool.and_true]
  match an, h3, h4 with
  | [], _, _ => rfl
  | [a], _, h4 =>
   obtain ⟨e1, e2, e3, e4, e5⟩ := h4 0 (by simp)
   simp only [List.getD_cons_zero] at e1 e2 e3 e4 e5
   simp only [anB, wi2, Bool.and_eq_true, decide_eq_true_eq, and_true]
   exact ⟨⟨⟨by omega, by omega⟩, by omega⟩, w128 _ ⟨e2, e3⟩, w128 _ ⟨e4, e5⟩⟩
  | [a, b], _, h4 =>
   obtain ⟨e1, e2, e3, e4, e5⟩ := h4 0 (by simp)
   obtain ⟨f1, f2, f3, f4, f5⟩ := h4 1 (by simp)
   simp only [List.getD_cons_zero, List.getD_cons_succ] at e1 e2 e3 e4 e5 f1 f2 f3 f4 f5
   simp only [anB, wi2, Bool.and_eq_true, decide_eq_true_eq, and_true]
   exact ⟨⟨⟨⟨by omega, by omega⟩, by omega⟩, w128 _ ⟨e2, e3⟩, w128 _ ⟨e4, e5⟩⟩, ⟨⟨by omega, by omega⟩, by omega⟩, w128 _ ⟨f2, f3⟩, w128 _ ⟨f4, f5⟩⟩
  | _ :: _ :: _ :: _, h3, _ => simp at h3
 rw [if_neg (by dsimp only; rw [ha]; decide)]
 unfold Gl.chk5
 rw [if_neg (by dsimp only; omega)]
 unfold Gl.chk6
 rw [if_neg (by unfold Gl.dlOk Gl.pts; dsimp only; rw [h8.2]; decide)]
set_option maxRecDepth 1000000 in
theorem made_any (l : List Int) (A : Option Addr) (c : Nat) (R : Nat) (w : World) (hR : R ≤ 3) (hC : Kd.C kI w A l.length l) : Calls Try.prog 24 #[.slice A l.length c, .int .i64 (R : Int)] w fun e w' => ∃ (g : Gl) (h : Hd), e = .returned (.agg (gv g h)) ∧ GlO w' w.heap.size g h ∧ MdOk R g ∧ Below w.heap.size w w' := by
 have HC := lH_ hC
 clear hC
 go_enter Try.func24, Try.ntmps24
 go_upto_region 2 with fail
 obtain ⟨wa, g4, hw0_, hg0_, Xg4_, Yg4_, _⟩ := new_box w #[.slice none 0 0, .slice none 0 0, .int .i64 0, .int .i64 0, .int .i64 0, .int .i64 0, .slice none 0 0, .slice none 0 0] 29
 obtain ⟨wb, gd, hw1_, hg1_, Xgd_, Ygd_, _⟩ := new_box wa #[.slice A l.length c, .int .i64 0] 129
 have s1_ : w.heap.size + 1 = gd := by rw [← hg1_, ← hw0_]; simp
 rw [hw0_, hw1_, s1_, hg0_]
 have Eg4 := lH_ (show g4 = w.heap.size + 0 by omega)
 have Egd := lH_ (show gd = w.heap.size + 1 by omega)
 clear hw0_ hg0_ hw1_ hg1_ s1_
 have HXwb := lH_ (bthen' (Yg4_.out) Ygd_.out)
 have Bg4 := lH_ ((Xg4_.out).below Ygd_.out)
 have Bgd := lH_ (Xgd_.out)
 clear Xg4_ Yg4_ Xgd_ Ygd_
 have NEB4 := lH_ (show g4 ≠ gd by have := Eg4.out; have := Egd.out; omega)
 have HGD := lH_ (show w.heap.size ≤ gd by have := Egd.out; omega)
 have HG4 := lH_ (show w.heap.size ≤ g4 by have := Eg4.out; omega)
 have B4 := Bg4
 clear Bg4
 have HD : Hid (Dr w gd A c l 0 wb) := lH_ ⟨Bgd.out, HC.out, Nat.zero_le _, HGD.out, HXwb.out⟩
 clear Bgd
 go_wp2_with fail
 refine (next_any w gd A c l _ 64 wb (by omega) (by omega) HD.out).mono ?_
 rintro e v1 ⟨r1, p1, rfl, hr1, hs, hd⟩
 replace B4 := lH_ (hs.blk B4.out B4.out.lt NEB4.out)
 have HZ1 := lH_ hs.size
 replace HD := lH_ hd
 clear hs hd
 have HADV := lH_ (show 0 ≤ r1 ∧ r1 ≤ 63 by omega)
 generalize r1 = adv at *
 go_upto_region 3 with fail
 obtain ⟨v2, g6, hw0_, hg0_, Xg6_, Yg6_, _⟩ := new_box v1 #[.slice none 0 0, .slice none 0 0, .int .i64 0, .int .i64 0, .int .i64 0, .int .i64 adv, .slice none 0 0, .slice none 0 0] 29
 rw [hw0_, hg0_]
 have Eg6 := lH_ (show g6 = v1.heap.size + 0 by omega)
 clear hw0_ hg0_
 have HXv2 := lH_ (Yg6_.out)
 have Bg6 := lH_ (Xg6_.out)
 clear Xg6_ Yg6_
 have NEB6 := lH_ (show g6 ≠ gd by have := Eg6.out; have := HD.out.box.lt; omega)
 have N46 := lH_ (show g4 ≠ g6 by have := Eg6.out; have := B4.out.lt; omega)
 have HG6 := lH_ (show w.heap.size ≤ g6 by have := Eg6.out; have := HD.out.below.size; omega)
 have B6 := Bg6
 clear Bg6
 replace B4 := lH_ (B4.out.below HXv2.out)
 replace HD := lH_ (HD.out.below_ HXv2.out)
 go_wp2_with fail
 refine (next_any w gd A c l _ 3 v2 (by omega) (by omega) HD.out).mono ?_
 rintro e x3 ⟨r3, p3, rfl, hr3, hs, hd⟩
 replace B4 := lH_ (hs.blk B4.out B4.out.lt NEB4.out)
 replace B6 := lH_ (hs.blk B6.out B6.out.lt NEB6.out)
 have HZ3 := lH_ hs.size
 replace HD := lH_ hd
 clear hs hd
 obtain ⟨mc, rfl⟩ : ∃ m : Nat, r3 = (m : Int) := ⟨r3.toNat, by omega⟩
 have HMC := lH_ (show mc ≤ 2 by omega)
 clear hr1 hr3 HZ1 HZ3
 go_wp2_with fail
 go_loopw [8] (fun i wr => ∃ (k : Nat) (cs : List (List Pt)) (vc : Value), i = .int .i64 (k : Int) ∧ k ≤ mc ∧ Hid (cs.length = k) ∧ Hid (CsOk cs) ∧ Hid (Blk wr g4 #[.slice none 0 0, .slice none 0 0, .int .i64 0, .int .i64 0, .int .i64 0, .int .i64 0, .slice none 0 0, .slice none 0 0] 29) ∧ Hid (Blk wr g6 #[vc, .slice none 0 0, .int .i64 0, .int .i64 0, .int .i64 0, .int .i64 adv, .slice none 0 0, .slice none 0 0] 29) ∧ Hid (Kd.R kCt 71 wr w.heap.size (fun _ => True) vc cs) ∧ Hid (DrS w gd A c l wr)) (fun i _ => mc - (intOf i).toNat)
 case atStart => exact ⟨0, [], _, rfl, Nat.zero_le _, lH_ rfl, lH_ (fun x hx => by cases hx), B4, B6, lH_ (Kd.R_nil _ _ _ _ _), lH_ ⟨_, HD.out⟩⟩
 case round =>
  clear B4 B6 HD HXv2
  obtain ⟨k, cs, vc, rfl, hk, HL, HOKC, B4, B6, RC, HDS⟩ := hrel
  obtain ⟨p, hdp⟩ := HDS.out
  have HD := lH_ hdp
  clear hdp HDS
  by_cases hlt : k < mc
  ·have d1 : decide (k < mc) = true := decide_eq_true hlt
   have d2 : decide ((k : Int) < (mc : Int)) = true := decide_eq_true (by omega)
   have HKL := lH_ hlt
   clear hlt
   go_wp2_with fail
   refine (next_any w gd A c l _ 3 wr (by omega) (by omega) HD.out).mono ?_
   rintro e y4 ⟨r4, p4, rfl, hr4, hs, hd⟩
   replace B4 := lH_ (hs.blk B4.out B4.out.lt NEB4.out)
   replace B6 := lH_ (hs.blk B6.out B6.out.lt NEB6.out)
   replace RC := lH_ (Sc.R RC.out HD.out.box (by decide) hs)
   have HZ4 := lH_ hs.size
   replace HD := lH_ hd
   clear hs hd
   have ha4 : IntKind.i64.wrap (3 + r4) = 3 + r4 := IntWalk.i64_in _ (by omega)
   go_wp2_with fail
   refine (next_any w gd A c l _ 40 y4 (by omega) (by omega) HD.out).mono ?_
   rintro e y5 ⟨r5, p5, rfl, hr5, hs, hd⟩
   replace B4 := lH_ (hs.blk B4.out B4.out.lt NEB4.out)
   replace B6 := lH_ (hs.blk B6.out B6.out.lt NEB6.out)
   replace RC := lH_ (Sc.R RC.out HD.out.box (by decide) hs)
   have HZ5 := lH_ hs.size
   replace HD := lH_ hd
   clear hs hd
   have ha5 : IntKind.i64.wrap (r5 - 10) = r5 - 10 := IntWalk.i64_in _ (by omega)
   go_wp2_with fail
   refine (next_any w gd A c l _ 40 y5 (by omega) (by omega) HD.out).mono ?_
   rintro e y6 ⟨r6, p6, rfl, hr6, hs, hd⟩
   replace B4 := lH_ (hs.blk B4.out B4.out.lt NEB4.out)
   replace B6 := lH_ (hs.blk B6.out B6.out.lt NEB6.out)
   replace RC := lH_ (Sc.R RC.out HD.out.box (by decide) hs)
   have HZ6 := lH_ hs.size
   replace HD := lH_ hd
   clear hs hd
   have ha6 : IntKind.i64.wrap (r6 - 10) = r6 - 10 := IntWalk.i64_in _ (by omega)
   obtain ⟨np, hnp⟩ : ∃ m : Nat, 3 + r4 = (m : Int) := ⟨(3 + r4).toNat, by omega⟩
   rw [hnp] at ha4 ⊢
   have HNP := lH_ (show 3 ≤ np ∧ np ≤ 5 by omega)
   obtain ⟨x, hx⟩ : ∃ x, r5 - 10 = x := ⟨_, rfl⟩
   obtain ⟨y, hy⟩ : ∃ y, r6 - 10 = y := ⟨_, rfl⟩
   rw [hx] at ha5 ⊢
   rw [hy] at ha6
   have HXY := lH_ (show -10 ≤ x ∧ x ≤ 29 ∧ -10 ≤ y ∧ y ≤ 29 by omega)
   clear hr4 hr5 hr6 hnp hx ha4 ha5 HZ4 HZ5 HZ6
   try rw [hy]
   go_wp2_with fail
   try simp only [hy]
   clear hy ha6
   obtain ⟨N1, hN1⟩ : ∃ n, y6.heap.size = n := ⟨_, rfl⟩
   have HN1 := lH_ hN1
   clear hN1
   have RCL := lH_ (Kd.R_mono (Kd.R_bound RC.out) (fun k_ hk_ => (show k_ < N1 by rw [← HN1.out]; exact hk_.2.2.1)))
   have HWN := lH_ (show w.heap.size ≤ N1 by rw [← HN1.out]; exact HD.out.below.size)
   have HL4 := lH_ (show g4 < N1 by rw [← HN1.out]; exact B4.out.lt)
   have HL6 := lH_ (show g6 < N1 by rw [← HN1.out]; exact B6.out.lt)
   have HLd := lH_ (show gd < N1 by rw [← HN1.out]; exact HD.out.box.lt)
   generalize wr = wo at *
   go_loopw [9, 13] (fun s i wr => ∃ (j : Nat) (ps : List Pt), i = .int .i64 (j : Int) ∧ j ≤ np ∧ Hid (ps.length = j) ∧ Hid (PsOk ps) ∧ Hid (Blk wr g4 #[.slice none 0 0, .slice none 0 0, .int .i64 0, .int .i64 0, .int .i64 0, .int .i64 0, .slice none 0 0, .slice none 0 0] 29) ∧ Hid (Blk wr g6 #[vc, .slice none 0 0, .int .i64 0, .int .i64 0, .int .i64 0, .int .i64 adv, .slice none 0 0, .slice none 0 0] 29) ∧ Hid (Kd.R kCt 71 wr w.heap.size (fun k_ => k_ < N1) vc cs) ∧ Hid (Kd.R kPt 73 wr N1 (fun _ => True) s ps) ∧ Hid (DrS w gd A c l wr) ∧ Hid (N1 ≤ wr.heap.size)) (fun _ i _ => np - (intOf i).toNat)
   case atStart => exact ⟨0, [], rfl, Nat.zero_le _, lH_ rfl, lH_ (fun x hx => by cases hx), B4, B6, RCL, lH_ (Kd.R_nil _ _ _ _ _), lH_ ⟨_, HD.out⟩, lH_ (Nat.le_of_eq HN1.out.symm)⟩
   case round =>
    clear B4 B6 HD RC RCL
    obtain ⟨j, ps, rfl, hj, HLJ, HOKJ, B4, B6, RC, HV, HDS, HNW⟩ := hrel
    obtain ⟨p, hdp⟩ := HDS.out
    have HD := lH_ hdp
    clear hdp HDS
    by_cases hjl : j < np
    ·have e1 : decide (j < np) = true := decide_eq_true hjl
     have e2 : decide ((j : Int) < (np : Int)) = true := decide_eq_true (by omega)
     have HJL := lH_ hjl
     have hj6 : j < 5 := by have := HNP.out; omega
     clear hjl
     obtain ⟨Av, cw, rfl⟩ := Kd.R_slice HV.out
     go_wp2_with fail
     refine (next_any w gd A c l _ 50 wr (by omega) (by omega) HD.out).mono ?_
     rintro e t7 ⟨r7, p7, rfl, hr7, hs, hd⟩
     replace B4 := lH_ (hs.blk B4.out B4.out.lt NEB4.out)
     replace B6 := lH_ (hs.blk B6.out B6.out.lt NEB6.out)
     replace RC := lH_ (Sc.R RC.out HD.out.box (by decide) hs)
     replace HV := lH_ (Sc.R HV.out HD.out.box (by decide) hs)
     have HZ7 := lH_ hs.size
     replace HD := lH_ hd
     clear hs hd
     have ha7 : IntKind.i64.wrap (x + r7) = x + r7 := IntWalk.i64_in _ (by have := HXY.out; omega)
     go_wp2_with fail
     refine (next_any w gd A c l _ 50 t7 (by omega) (by omega) HD.out).mono ?_
     rintro e t8 ⟨r8, p8, rfl, hr8, hs, hd⟩
     replace B4 := lH_ (hs.blk B4.out B4.out.lt NEB4.out)
     replace B6 := lH_ (hs.blk B6.out B6.out.lt NEB6.out)
     replace RC := lH_ (Sc.R RC.out HD.out.box (by decide) hs)
     replace HV := lH_ (Sc.R HV.out HD.out.box (by decide) hs)
     have HZ8 := lH_ hs.size
     replace HD := lH_ hd
     clear hs hd
     have ha8 : IntKind.i64.wrap (y + r8) = y + r8 := IntWalk.i64_in _ (by have := HXY.out; omega)
     go_wp2_with fail
     refine (next_any w gd A c l _ 3 t8 (by omega) (by omega) HD.out).mono ?_
     rintro e t9 ⟨r9, p9, rfl, hr9, hs, hd⟩
     replace B4 := lH_ (hs.blk B4.out B4.out.lt NEB4.out)
     replace B6 := lH_ (hs.blk B6.out B6.out.lt NEB6.out)
     replace RC := lH_ (Sc.R RC.out HD.out.box (by decide) hs)
     replace HV := lH_ (Sc.R HV.out HD.out.box (by decide) hs)
     have HZ9 := lH_ hs.size
     replace HD := lH_ hd
     clear hs hd
     obtain ⟨on, hon⟩ : ∃ b, decide (0 < r9) = b := ⟨_, rfl⟩
     obtain ⟨px, hpx⟩ : ∃ q, x + r7 = q := ⟨_, rfl⟩
     obtain ⟨py, hpy⟩ : ∃ q, y + r8 = q := ⟨_, rfl⟩
     have HPK := lH_ (show PtOk ⟨px, py, on⟩ by have := HXY.out; refine ⟨?_, ?_, ?_, ?_⟩ <;> dsimp only <;> omega)
     rw [hpx] at ha7
     rw [hpy] at ha8
     have HN9 := lH_ (show N1 ≤ t9.heap.size by have := HNW.out; have := HZ7.out; have := HZ8.out; have := HZ9.out; omega)
     clear hr7 hr8 hr9 HZ7 HZ8 HZ9 HNW
     go_upto_region 15 with fail
     try simp only [hpx, hpy, hon]
     obtain ⟨ta, gX, hw0_, hg0_, XgX_, YgX_, _⟩ := new_box t9 #[.int .i64 px, .int .i64 py, .bool on] 73
     rw [hw0_, hg0_]
     have EgX := lH_ (show gX = t9.heap.size + 0 by omega)
     clear hw0_ hg0_
     have HXta := lH_ (YgX_.out)
     have BgX := lH_ (XgX_.out)
     clear XgX_ YgX_
     clear hpx hpy hon ha7 ha8
     replace B4 := lH_ (B4.out.below HXta.out)
     replace B6 := lH_ (B6.out.below HXta.out)
     replace RC := lH_ (Kd.R_below RC.out HXta.out)
     replace HV := lH_ (Kd.R_below HV.out HXta.out)
     replace HD := lH_ (HD.out.below_ HXta.out)
     have HNA := lH_ (Nat.le_trans HN9.out HXta.out.size)
     have b0 := BgX.out.cell 0
     have b1 := BgX.out.cell 1
     have b2 := BgX.out.cell 2
     simp only [gA_, gZ_, gS_] at b0 b1 b2
     go_wp2_with (at_builtin; go_loud (refine Kd.R_append kPt (W := ta) (w0 := ta) N1 rfl (.tmp 57) (.tmp 59) 71 73 _ 24 rfl (by kernel_rfl) infoPt rfl (by decide) (by omega) (.slice Av ps.length cw) ps ⟨px, py, on⟩ [.int .i64 px, .int .i64 py, .bool on] (fun _ => True) (fun _ => False) rfl rfl (kPt_mkM _ _ _ ⟨px, py, on⟩) (fun _ h => h.elim) (fun _ _ => trivial) HV.out (Below.refl _ _) HNA.out (by have := HLJ.out; have := HNP.out; omega) ?_); intro v9 w9 hR9 hB9 hG9 hat9; obtain ⟨A9, c9, rfl⟩ := Kd.R_slice hR9; have HR9 := lH_ hR9; have HB9 := lH_ hB9; have HG9 := lH_ hG9; clear hR9 hB9 hG9 hat9 b0 b1 b2)
     have HR10 := HR9.out
     rw [List.length_append, List.length_singleton] at HR10
     obtain ⟨inner, ho⟩ := Kd.R_own HV.out
     exact ⟨⟨j + 1, ps ++ [⟨px, py, on⟩], by go_num, by have := HJL.out; omega, lH_ (by rw [List.length_append, HLJ.out]; rfl), lH_ (fun x_ hx => by rcases List.mem_append.1 hx with h | h; exact HOKJ.out x_ h; rw [List.mem_singleton.1 h]; exact HPK.out), lH_ ((HG9.out.block g4 B4.out.lt (Kd.R_ne HV.out B4.out (by decide))).trans B4.out), lH_ ((HG9.out.block g6 B6.out.lt (Kd.R_ne HV.out B6.out (by decide))).trans B6.out), lH_ (Kd.R_grown RC.out HG9.out (fun k_ hk_ e => by have := own_base ho k_ e.symm; omega)), lH_ HR10, lH_ ⟨_, (HG9.out.block gd HD.out.box.lt (Kd.R_ne HV.out HD.out.box (by decide))).trans HD.out.box, HD.out.row, HD.out.at_, HD.out.far, HD.out.below.trans (HB9.out.mono HWN.out)⟩, lH_ (Nat.le_trans HNA.out HB9.out.size)⟩, by have := HJL.out; simp [intOf]; omega⟩
    ·have e1 : decide (j < np) = false := decide_eq_false hjl
     have e2 : decide ((j : Int) < (np : Int)) = false := decide_eq_false (by omega)
     obtain rfl : j = np := by omega
     clear hjl hj
     have HT := lH_ (Kd.R_mono RC.out (fun _ _ => trivial) : Kd.R kCt 71 wr w.heap.size (fun _ => True) vc cs)
     obtain ⟨Ac, kc, rfl⟩ := Kd.R_slice RC.out
     obtain ⟨Av, cw, rfl⟩ := Kd.R_slice HV.out
     have HP3 : Hid (kCt.M wr w.heap.size (fun k_ => True ∧ N1 ≤ k_ ∧ k_ < wr.heap.size ∧ ∃ q, q ∈ 73 :: kPt.E ∧ ∃ cells, wr.heap[k_]? = some (.cells cells q (0, 0))) ps [.slice Av ps.length cw]) := lH_ ⟨_, rfl, Kd.R_lower (Kd.R_bound HV.out) HWN.out⟩
     have HOKP := lH_ (fun j_ (h : True ∧ N1 ≤ j_ ∧ j_ < wr.heap.size ∧ ∃ q, q ∈ 73 :: kPt.E ∧ ∃ cells, wr.heap[j_]? = some (.cells cells q (0, 0))) => (⟨trivial, fun e => by have h1 := RC.out.1 j_ e.symm; have := h.2.1; omega⟩ : True ∧ some j_ ≠ (Value.slice Ac cs.length kc).ownBlock))
     have HCK := lH_ (show (3 ≤ ps.length ∧ ps.length ≤ 5) ∧ PsOk ps from ⟨by have := HLJ.out; have := HNP.out; omega, HOKJ.out⟩)
     have HLK := lH_ (show cs.length ≤ 2 by have := HL.out; have := HKL.out; have := HMC.out; omega)
     have hk5 : k < 5 := by have := HKL.out; have := HMC.out; omega
     have c0 := B6.out.cell 0
     simp only [gA_, gZ_, gS_] at c0
     go_wp2_with (at_builtin; go_loud (refine Kd.R_append kCt (W := wr) (w0 := wr) w.heap.size rfl (.tmp 62) (.tmp 64) 22 71 _ 24 rfl (by kernel_rfl) infoCt rfl (by decide) (by omega) (.slice Ac cs.length kc) cs ps [.slice Av ps.length cw] (fun _ => True) _ rfl rfl HP3.out HOKP.out (fun _ _ => trivial) HT.out (Below.refl _ _) HD.out.below.size (by have := HLK.out; omega) ?_); intro v9 w9 hR9 hB9 hG9 hat9; obtain ⟨A9, c9, rfl⟩ := Kd.R_slice hR9; have HR9 := lH_ hR9; have HB9 := lH_ hB9; have HG9 := lH_ hG9; have B69 : Hid (Blk w9 g6 _ _) := lH_ ((hG9.block g6 B6.out.lt (Kd.R_ne HT.out B6.out (by decide))).trans B6.out); have c9_ := B69.out.cell 0; have f9_ := B69.out.frozen 0; simp only [gA_, gZ_, gS_] at c9_; clear hR9 hB9 hG9 hat9 c0)
     have HR10 := HR9.out
     rw [List.length_append, List.length_singleton] at HR10
     exact ⟨⟨k + 1, cs ++ [ps], .slice A9 (cs.length + 1) c9, by go_num, by have := HKL.out; omega, lH_ (by rw [List.length_append, HL.out]; rfl), lH_ (fun x_ hx => by rcases List.mem_append.1 hx with h | h; exact HOKC.out x_ h; rw [List.mem_singleton.1 h]; exact HCK.out), lH_ (Blk.far ((HG9.out.block g4 B4.out.lt (Kd.R_ne HT.out B4.out (by decide))).trans B4.out) N46.out 0 _), lH_ (B69.out.put 0 _ rfl), lH_ (Kd.R_set HR10 B69.out (by decide) 0 _), lH_ ⟨_, Blk.far ((HG9.out.block gd HD.out.box.lt (Kd.R_ne HT.out HD.out.box (by decide))).trans HD.out.box) (Ne.symm NEB6.out) 0 _, HD.out.row, HD.out.at_, HD.out.far, bset (HD.out.below.trans HB9.out) HG6.out 0 _⟩⟩, by have := HKL.out; simp [intOf]; omega⟩
  ·have HCSN := lH_ (show k = mc by omega)
   have d1 : decide (k < mc) = false := decide_eq_false hlt
   have d2 : decide ((k : Int) < (mc : Int)) = false := decide_eq_false (by omega)
   clear hlt
   go_wp2_with fail
   refine (next_any w gd A c l _ 2 wr (by omega) (by omega) HD.out).mono ?_
   rintro e s11 ⟨r11, p11, rfl, hr11, hs, hd⟩
   replace B4 := lH_ (hs.blk B4.out B4.out.lt NEB4.out)
   replace B6 := lH_ (hs.blk B6.out B6.out.lt NEB6.out)
   replace RC := lH_ (Sc.R RC.out HD.out.box (by decide) hs)
   have HZ11 := lH_ hs.size
   replace HD := lH_ hd
   clear hs hd
   have ha11 : IntKind.i64.wrap (1 + r11) = 1 + r11 := IntWalk.i64_in _ (by omega)
   go_wp2_with fail
   refine (next_any w gd A c l _ 3 s11 (by omega) (by omega) HD.out).mono ?_
   rintro e s12 ⟨r12, p12, rfl, hr12, hs, hd⟩
   replace B4 := lH_ (hs.blk B4.out B4.out.lt NEB4.out)
   replace B6 := lH_ (hs.blk B6.out B6.out.lt NEB6.out)
   replace RC := lH_ (Sc.R RC.out HD.out.box (by decide) hs)
   have HZ12 := lH_ hs.size
   replace HD := lH_ hd
   clear hs hd
   obtain ⟨ma, rfl⟩ : ∃ m : Nat, r12 = (m : Int) := ⟨r12.toNat, by omega⟩
   have HMA := lH_ (show ma ≤ 2 by omega)
   obtain ⟨cl, hcl⟩ : ∃ q, 1 + r11 = q := ⟨_, rfl⟩
   have HCL := lH_ (show 1 ≤ cl ∧ cl ≤ 2 by omega)
   rw [hcl] at ha11
   clear hr11 hr12 HZ11 HZ12
   go_wp2_with fail
   try simp only [hcl]
   clear hcl ha11
   have HCS := lH_ (show cs.length ≤ 2 by have := HL.out; have := HMC.out; omega)
   clear hk
   generalize wr = wq at *
   go_loopw [16] (fun i wr => ∃ (k : Nat) (an : List I3) (va : Value), i = .int .i64 (k : Int) ∧ k ≤ ma ∧ Hid (an.length = k) ∧ Hid (AnOk cl an) ∧ Hid (Blk wr g4 #[.slice none 0 0, .slice none 0 0, .int .i64 0, .int .i64 0, .int .i64 0, .int .i64 0, .slice none 0 0, .slice none 0 0] 29) ∧ Hid (Blk wr g6 #[vc, va, .int .i64 0, .int .i64 0, .int .i64 0, .int .i64 adv, .slice none 0 0, .slice none 0 0] 29) ∧ Hid (Kd.R kCt 71 wr w.heap.size (fun _ => True) vc cs) ∧ Hid (Kd.R kI3 25 wr w.heap.size (fun _ => True) va an) ∧ Hid (DrS w gd A c l wr)) (fun i _ => ma - (intOf i).toNat)
   case atStart => exact ⟨0, [], _, rfl, Nat.zero_le _, lH_ rfl, lH_ (fun j hj => absurd hj (Nat.not_lt_zero _)), B4, B6, RC, lH_ (Kd.R_nil _ _ _ _ _), lH_ ⟨_, HD.out⟩⟩
   case round =>
    clear B4 B6 HD RC
    obtain ⟨k, an, va, rfl, hk, HLA, HOKA, B4, B6, RC, RA, HDS⟩ := hrel
    obtain ⟨p, hdp⟩ := HDS.out
    have HD := lH_ hdp
    clear hdp HDS
    by_cases hlt : k < ma
    ·have d1 : decide (k < ma) = true := decide_eq_true hlt
     have d2 : decide ((k : Int) < (ma : Int)) = true := decide_eq_true (by omega)
     have HKA := lH_ hlt
     have HLX := lH_ (show an.length ≤ 2 by have := HLA.out; have := HMA.out; omega)
     have HWC : Hid (IntKind.i64.wrap (cl + (k : Int)) = cl + (k : Int)) := lH_ (IntWalk.i64_in _ (by have := HCL.out; have := HMA.out; omega))
     have hk5 : k < 5 := by have := HMA.out; omega
     clear hlt
     go_upto_region 22 with fail
     refine start_ (n := 16) (S := fun w' => True) (ds := []) #[false, false, false, false, false, false, false, false, false, false, false, false, false, false, false, false] (by kernel_rfl) rfl rfl trivial (fun hHeld => ?_)
     refine with_tabW oMd22.tab22 oMd22.bits22 (fun HT_ HW_ => ?_)
     have HB : Aside0 (Below w.heap.size w wr.drew) := ⟨bdrew HD.out.below⟩
     have B4 : Aside0 (Blk wr.drew g4 #[.slice none 0 0, .slice none 0 0, .int .i64 0, .int .i64 0, .int .i64 0, .int .i64 0, .slice none 0 0, .slice none 0 0] 29) := ⟨B4.out.drew⟩
     have B6 : Aside0 (Blk wr.drew g6 #[vc, va, .int .i64 0, .int .i64 0, .int .i64 0, .int .i64 adv, .slice none 0 0, .slice none 0 0] 29) := ⟨B6.out.drew⟩
     have RC : Aside0 (Kd.R kCt 71 wr.drew w.heap.size (fun _ => True) vc cs) := ⟨Kd.R_below RC.out (below_drew (Below.refl _ _))⟩
     have RA : Aside0 (Kd.R kI3 25 wr.drew w.heap.size (fun _ => True) va an) := ⟨Kd.R_below RA.out (below_drew (Below.refl _ _))⟩
     have DD : Aside0 (Dr w gd A c l p wr.drew) := ⟨HD.out.below_ (below_drew (Below.refl _ _))⟩
     generalize hwd : wr.drew = w1' at *
     clear hwd
     refine inv_at [0, 1, 2, 3, 4, 5, 6, 7, 8, 9, 10, 11, 12, 13, 14, 15] (fun a0_ b a w' => ∃ (p : Nat) (ra : Int) (rb : Int) (ge : Nat) (v1 : Value) (m6_ : Value) (m7_ : Value) (m9_ : Value) (m10_ : Value) (m11_ : Value) (m12_ : Value), a = putSel a0_ b [(0, 77, .pointer (some ⟨g6, 1, none⟩)), (1, 78, va), (2, 79, .int .i64 cl), (3, 80, .int .i64 (k : Int)), (4, 81, .int .i64 (cl + k)), (5, 82, .pointer (some ⟨gd, 0, none⟩)), (6, 83, m6_), (7, 84, m7_), (8, 85, .pointer (some ⟨gd, 0, none⟩)), (9, 86, m9_), (10, 87, m10_), (11, 88, m11_), (12, 89, m12_), (13, 90, v1), (14, 91, .pointer (some ⟨g6, 1, none⟩))] ∧ (Below w.heap.size w w') ∧ (Blk w' g4 #[.slice none 0 0, .slice none 0 0, .int .i64 0, .int .i64 0, .int .i64 0, .int .i64 0, .slice none 0 0, .slice none 0 0] 29) ∧ (b 15 = false → Blk w' g6 #[vc, va, .int .i64 0, .int .i64 0, .int .i64 0, .int .i64 adv, .slice none 0 0, .slice none 0 0] 29) ∧ (Kd.R kCt 71 w' w.heap.size (fun _ => True) vc cs) ∧ (b 13 = false → Kd.R kI3 25 w' w.heap.size (fun _ => True) va an) ∧ (Dr w gd A c l p w') ∧ (b 6 = true → 0 ≤ ra ∧ ra < 60) ∧ (b 9 = true → 0 ≤ rb ∧ rb < 60) ∧ (b 12 = true → b 13 = false → Blk w' ge #[.int .i64 (cl + k), .int .i64 (ra - 10), .int .i64 (rb - 10)] 25) ∧ (b 12 = true → w.heap.size ≤ ge) ∧ (b 13 = true → Kd.R kI3 25 w' w.heap.size (fun _ => True) v1 (an ++ [⟨cl + k, ra - 10, rb - 10⟩])) ∧ (b 15 = true → Blk w' g6 #[vc, v1, .int .i64 0, .int .i64 0, .int .i64 0, .int .i64 adv, .slice none 0 0, .slice none 0 0] 29) ∧ (b 6 = true → (m6_ : Value) = .int .i64 ra) ∧ (b 7 = true → (m7_ : Value) = .int .i64 (ra - 10)) ∧ (b 9 = true → (m9_ : Value) = .int .i64 rb) ∧ (b 10 = true → (m10_ : Value) = .int .i64 (rb - 10)) ∧ (b 11 = true → (m11_ : Value) = .agg #[.int .i64 (cl + k), .int .i64 (ra - 10), .int .i64 (rb - 10)]) ∧ (b 12 = true → (m12_ : Value) = .slice (some ⟨ge, 0, none⟩) 1 1)) HT_.out HW_.out (by kernel_rfl) (by kernel_rfl) ?_ ?_ ?_
     ·exact ⟨p, 0, 0, 0, undef, .bool false, .bool false, .bool false, .bool false, .bool false, .bool false, by simp only [putSel, Bool.false_eq_true, if_false], HB.out, B4.out, fun _ => B6.out, RC.out, fun _ => RA.out, DD.out, fun h_ => absurd h_ (by decide), fun h_ => absurd h_ (by decide), fun h_ => absurd h_ (by decide), fun h_ => absurd h_ (by decide), fun h_ => absurd h_ (by decide), fun h_ => absurd h_ (by decide), fun h_ => absurd h_ (by decide), fun h_ => absurd h_ (by decide), fun h_ => absurd h_ (by decide), fun h_ => absurd h_ (by decide), fun h_ => absurd h_ (by decide), fun h_ => absurd h_ (by decide)⟩
     ·skip
      clear B4 B6 DD HB RA RC
      refine steps_cons ?_ ?_
      ·rintro b a w' ⟨p, ra, rb, ge, v1, m6_, m7_, m9_, m10_, m11_, m12_, ha, QHB, QB4, QB6, QRC, QRA, QDD, QNra, QNrb, QEB, QLge, QRB, QB7, QX6_, QX7_, QX9_, QX10_, QX11_, QX12_⟩ hb_ hon hoff
       refine ⟨_, rfl, fun K hK => ?_⟩
       have e6 : a.tmps[6]? = some (.pointer (some ⟨g6, 0, none⟩)) := by rw [ha]; exact (putSel_off rfl).trans rfl
       replace ha := aM_ ha
       have HB := aM_ QHB
       have B4 := aM_ QB4
       have B6 := aM_ (QB6 (hoff 15 rfl))
       have RC := aM_ QRC
       have RA := aM_ (QRA (hoff 13 rfl))
       have DD := aM_ QDD
       refine value_ (w1 := w') (v := .pointer (some ⟨g6, 1, none⟩)) (by rfl) rfl ?_ ?_
       ·go_simp
        (try simp only [i64_w])
        try rfl
        try assumption
       refine hK.out _ _ ⟨p, ra, rb, ge, v1, m6_, m7_, m9_, m10_, m11_, m12_, (by rw [ha.out]; exact putSel_upk 0 hb_ rfl rfl rfl), QHB, QB4, QB6, QRC, QRA, QDD, QNra, QNrb, QEB, QLge, dD_ (hoff 13 rfl), dD_ (hoff 15 rfl), QX6_, QX7_, QX9_, QX10_, QX11_, QX12_⟩
      refine steps_cons ?_ ?_
      ·rintro b a w' ⟨p, ra, rb, ge, v1, m6_, m7_, m9_, m10_, m11_, m12_, ha, QHB, QB4, QB6, QRC, QRA, QDD, QNra, QNrb, QEB, QLge, QRB, QB7, QX6_, QX7_, QX9_, QX10_, QX11_, QX12_⟩ hb_ hon hoff
       refine ⟨_, rfl, fun K hK => ?_⟩
       have e77 : a.tmps[77]? = some (.pointer (some ⟨g6, 1, none⟩)) := by rw [ha]; exact putSel_on (e := (0, 77, .pointer (some ⟨g6, 1, none⟩))) 0 rfl rfl (hon 0 rfl) rfl
       replace ha := aM_ ha
       have HB := aM_ QHB
       have B4 := aM_ QB4
       have B6 := aM_ (QB6 (hoff 15 rfl))
       have RC := aM_ QRC
       have RA := aM_ (QRA (hoff 13 rfl))
       have DD := aM_ QDD
       have q4 := B6.out.cell 1
       refine value_ (w1 := w') (v := va) (by rfl) rfl ?_ ?_
       ·go_simp
        (try simp only [i64_w])
        try rfl
        try assumption
       refine hK.out _ _ ⟨p, ra, rb, ge, v1, m6_, m7_, m9_, m10_, m11_, m12_, (by rw [ha.out]; exact putSel_upk 1 hb_ rfl rfl rfl), QHB, QB4, QB6, QRC, QRA, QDD, QNra, QNrb, QEB, QLge, dD_ (hoff 13 rfl), dD_ (hoff 15 rfl), QX6_, QX7_, QX9_, QX10_, QX11_, QX12_⟩
      refine steps_cons ?_ ?_
      ·rintro b a w' ⟨p, ra, rb, ge, v1, m6_, m7_, m9_, m10_, m11_, m12_, ha, QHB, QB4, QB6, QRC, QRA, QDD, QNra, QNrb, QEB, QLge, QRB, QB7, QX6_, QX7_, QX9_, QX10_, QX11_, QX12_⟩ hb_ hon hoff
       refine ⟨_, rfl, fun K hK => ?_⟩
       have e15 : a.tmps[15]? = some (.int .i64 cl) := by rw [ha]; exact (putSel_off rfl).trans rfl
       replace ha := aM_ ha
       have HB := aM_ QHB
       have B4 := aM_ QB4
       have B6 := aM_ (QB6 (hoff 15 rfl))
       have RC := aM_ QRC
       have RA := aM_ (QRA (hoff 13 rfl))
       have DD := aM_ QDD
       refine value_ (w1 := w') (v := .int .i64 cl) (by rfl) rfl ?_ ?_
       ·go_simp
        (try simp only [i64_w])
        try rfl
        try assumption
       refine hK.out _ _ ⟨p, ra, rb, ge, v1, m6_, m7_, m9_, m10_, m11_, m12_, (by rw [ha.out]; exact putSel_upk 2 hb_ rfl rfl rfl), QHB, QB4, QB6, QRC, QRA, QDD, QNra, QNrb, dD_ (hoff 12 rfl), dD_ (hoff 12 rfl), dD_ (hoff 13 rfl), dD_ (hoff 15 rfl), QX6_, QX7_, QX9_, QX10_, dD_ (hoff 11 rfl), dD_ (hoff 12 rfl)⟩
      refine steps_cons ?_ ?_
      ·rintro b a w' ⟨p, ra, rb, ge, v1, m6_, m7_, m9_, m10_, m11_, m12_, ha, QHB, QB4, QB6, QRC, QRA, QDD, QNra, QNrb, QEB, QLge, QRB, QB7, QX6_, QX7_, QX9_, QX10_, QX11_, QX12_⟩ hb_ hon hoff
       refine ⟨_, rfl, fun K hK => ?_⟩
       have e16 : a.tmps[16]? = some (.int .i64 (k : Int)) := by rw [ha]; exact (putSel_off rfl).trans rfl
       replace ha := aM_ ha
       have HB := aM_ QHB
       have B4 := aM_ QB4
       have B6 := aM_ (QB6 (hoff 15 rfl))
       have RC := aM_ QRC
       have RA := aM_ (QRA (hoff 13 rfl))
       have DD := aM_ QDD
       refine value_ (w1 := w') (v := .int .i64 (k : Int)) (by rfl) rfl ?_ ?_
       ·go_simp
        (try simp only [i64_w])
        try rfl
        try assumption
       refine hK.out _ _ ⟨p, ra, rb, ge, v1, m6_, m7_, m9_, m10_, m11_, m12_, (by rw [ha.out]; exact putSel_upk 3 hb_ rfl rfl rfl), QHB, QB4, QB6, QRC, QRA, QDD, QNra, QNrb, dD_ (hoff 12 rfl), dD_ (hoff 12 rfl), dD_ (hoff 13 rfl), dD_ (hoff 15 rfl), QX6_, QX7_, QX9_, QX10_, dD_ (hoff 11 rfl), dD_ (hoff 12 rfl)⟩
      refine steps_cons ?_ ?_
      ·rintro b a w' ⟨p, ra, rb, ge, v1, m6_, m7_, m9_, m10_, m11_, m12_, ha, QHB, QB4, QB6, QRC, QRA, QDD, QNra, QNrb, QEB, QLge, QRB, QB7, QX6_, QX7_, QX9_, QX10_, QX11_, QX12_⟩ hb_ hon hoff
       refine ⟨_, rfl, fun K hK => ?_⟩
       have e79 : a.tmps[79]? = some (.int .i64 cl) := by rw [ha]; exact putSel_on (e := (2, 79, .int .i64 cl)) 2 rfl rfl (hon 2 rfl) rfl
       have e80 : a.tmps[80]? = some (.int .i64 (k : Int)) := by rw [ha]; exact putSel_on (e := (3, 80, .int .i64 (k : Int))) 3 rfl rfl (hon 3 rfl) rfl
       replace ha := aM_ ha
       have HB := aM_ QHB
       have B4 := aM_ QB4
       have B6 := aM_ (QB6 (hoff 15 rfl))
       have RC := aM_ QRC
       have RA := aM_ (QRA (hoff 13 rfl))
       have DD := aM_ QDD
       have hw := HWC.out
       refine value_ (w1 := w') (v := .int .i64 (cl + k)) (by rfl) rfl ?_ ?_
       ·go_simp
        (try simp only [i64_w])
        try rfl
        try assumption
       refine hK.out _ _ ⟨p, ra, rb, ge, v1, m6_, m7_, m9_, m10_, m11_, m12_, (by rw [ha.out]; exact putSel_upk 4 hb_ rfl rfl rfl), QHB, QB4, QB6, QRC, QRA, QDD, QNra, QNrb, dD_ (hoff 12 rfl), dD_ (hoff 12 rfl), dD_ (hoff 13 rfl), dD_ (hoff 15 rfl), QX6_, QX7_, QX9_, QX10_, dD_ (hoff 11 rfl), dD_ (hoff 12 rfl)⟩
      refine steps_cons ?_ ?_
      ·rintro b a w' ⟨p, ra, rb, ge, v1, m6_, m7_, m9_, m10_, m11_, m12_, ha, QHB, QB4, QB6, QRC, QRA, QDD, QNra, QNrb, QEB, QLge, QRB, QB7, QX6_, QX7_, QX9_, QX10_, QX11_, QX12_⟩ hb_ hon hoff
       refine ⟨_, rfl, fun K hK => ?_⟩
       have e5 : a.tmps[5]? = some (.pointer (some ⟨gd, 0, none⟩)) := by rw [ha]; exact (putSel_off rfl).trans rfl
       replace ha := aM_ ha
       have HB := aM_ QHB
       have B4 := aM_ QB4
       have B6 := aM_ (QB6 (hoff 15 rfl))
       have RC := aM_ QRC
       have RA := aM_ (QRA (hoff 13 rfl))
       have DD := aM_ QDD
       refine value_ (w1 := w') (v := .pointer (some ⟨gd, 0, none⟩)) (by rfl) rfl ?_ ?_
       ·go_simp
        (try simp only [i64_w])
        try rfl
        try assumption
       refine hK.out _ _ ⟨p, ra, rb, ge, v1, m6_, m7_, m9_, m10_, m11_, m12_, (by rw [ha.out]; exact putSel_upk 5 hb_ rfl rfl rfl), QHB, QB4, QB6, QRC, QRA, QDD, dD_ (hoff 6 rfl), dD_ (hoff 9 rfl), dD_ (hoff 12 rfl), dD_ (hoff 12 rfl), dD_ (hoff 13 rfl), dD_ (hoff 15 rfl), dD_ (hoff 6 rfl), dD_ (hoff 7 rfl), dD_ (hoff 9 rfl), dD_ (hoff 10 rfl), dD_ (hoff 11 rfl), dD_ (hoff 12 rfl)⟩
      refine steps_cons ?_ ?_
      ·rintro b a w' ⟨p, ra, rb, ge, v1, m6_, m7_, m9_, m10_, m11_, m12_, ha, QHB, QB4, QB6, QRC, QRA, QDD, QNra, QNrb, QEB, QLge, QRB, QB7, QX6_, QX7_, QX9_, QX10_, QX11_, QX12_⟩ hb_ hon hoff
       refine ⟨_, rfl, fun K hK => ?_⟩
       have e82 : a.tmps[82]? = some (.pointer (some ⟨gd, 0, none⟩)) := by rw [ha]; exact putSel_on (e := (5, 82, .pointer (some ⟨gd, 0, none⟩))) 5 rfl rfl (hon 5 rfl) rfl
       replace ha := aM_ ha
       have HB := aM_ QHB
       have B4 := aM_ QB4
       have B6 := aM_ (QB6 (hoff 15 rfl))
       have RC := aM_ QRC
       have RA := aM_ (QRA (hoff 13 rfl))
       have DD := aM_ QDD
       refine call_ 64 #[.pointer (some ⟨gd, 0, none⟩), .int .i64 60] (by rfl) rfl ?_ ?_
       ·go_simp
       refine (next_any w gd A c l p 60 w' (by omega) (by omega) DD.out).mono ?_
       rintro e w2' ⟨r', p', rfl, hr, hs, hd'⟩
       refine ⟨_, rfl, ?_⟩
       refine hK.out _ _ ⟨p', r', rb, ge, v1, (.int .i64 r'), m7_, m9_, m10_, m11_, m12_, (by rw [ha.out]; exact putSel_upk 6 hb_ rfl rfl rfl), HB.out.trans (hs.below.mono DD.out.far), hs.blk B4.out B4.out.lt NEB4.out, fun _ => hs.blk B6.out B6.out.lt NEB6.out, Sc.R RC.out DD.out.box (by decide) hs, fun _ => Sc.R RA.out DD.out.box (by decide) hs, hd', fun _ => hr, dD_ (hoff 9 rfl), dD_ (hoff 12 rfl), dD_ (hoff 12 rfl), dD_ (hoff 13 rfl), dD_ (hoff 15 rfl), fun _ => rfl, dD_ (hoff 7 rfl), dD_ (hoff 9 rfl), dD_ (hoff 10 rfl), dD_ (hoff 11 rfl), dD_ (hoff 12 rfl)⟩
      refine steps_cons ?_ ?_
      ·rintro b a w' ⟨p, ra, rb, ge, v1, m6_, m7_, m9_, m10_, m11_, m12_, ha, QHB, QB4, QB6, QRC, QRA, QDD, QNra, QNrb, QEB, QLge, QRB, QB7, QX6_, QX7_, QX9_, QX10_, QX11_, QX12_⟩ hb_ hon hoff
       refine ⟨_, rfl, fun K hK => ?_⟩
       have e83 : a.tmps[83]? = some (m6_) := by rw [ha]; exact putSel_on (e := (6, 83, m6_)) 6 rfl rfl (hon 6 rfl) rfl
       rw [QX6_ (hon 6 rfl)] at e83
       replace ha := aM_ ha
       have HB := aM_ QHB
       have B4 := aM_ QB4
       have B6 := aM_ (QB6 (hoff 15 rfl))
       have RC := aM_ QRC
       have RA := aM_ (QRA (hoff 13 rfl))
       have DD := aM_ QDD
       have Nra := aM_ (QNra (hon 6 rfl))
       have hw := (IntWalk.i64_in (ra - 10) (by have := Nra.out; omega) : IntKind.i64.wrap (ra - 10) = ra - 10)
       refine value_ (w1 := w') (v := .int .i64 (ra - 10)) (by rfl) rfl ?_ ?_
       ·go_simp
        (try simp only [i64_w])
        try rfl
        try assumption
       refine hK.out _ _ ⟨p, ra, rb, ge, v1, m6_, (.int .i64 (ra - 10)), m9_, m10_, m11_, m12_, (by rw [ha.out]; exact putSel_upk 7 hb_ rfl rfl rfl), QHB, QB4, QB6, QRC, QRA, QDD, QNra, QNrb, dD_ (hoff 12 rfl), dD_ (hoff 12 rfl), dD_ (hoff 13 rfl), dD_ (hoff 15 rfl), QX6_, fun _ => rfl, QX9_, QX10_, dD_ (hoff 11 rfl), dD_ (hoff 12 rfl)⟩
      refine steps_cons ?_ ?_
      ·rintro b a w' ⟨p, ra, rb, ge, v1, m6_, m7_, m9_, m10_, m11_, m12_, ha, QHB, QB4, QB6, QRC, QRA, QDD, QNra, QNrb, QEB, QLge, QRB, QB7, QX6_, QX7_, QX9_, QX10_, QX11_, QX12_⟩ hb_ hon hoff
       refine ⟨_, rfl, fun K hK => ?_⟩
       have e5 : a.tmps[5]? = some (.pointer (some ⟨gd, 0, none⟩)) := by rw [ha]; exact (putSel_off rfl).trans rfl
       replace ha := aM_ ha
       have HB := aM_ QHB
       have B4 := aM_ QB4
       have B6 := aM_ (QB6 (hoff 15 rfl))
       have RC := aM_ QRC
       have RA := aM_ (QRA (hoff 13 rfl))
       have DD := aM_ QDD
       refine value_ (w1 := w') (v := .pointer (some ⟨gd, 0, none⟩)) (by rfl) rfl ?_ ?_
       ·go_simp
        (try simp only [i64_w])
        try rfl
        try assumption
       refine hK.out _ _ ⟨p, ra, rb, ge, v1, m6_, m7_, m9_, m10_, m11_, m12_, (by rw [ha.out]; exact putSel_upk 8 hb_ rfl rfl rfl), QHB, QB4, QB6, QRC, QRA, QDD, QNra, dD_ (hoff 9 rfl), dD_ (hoff 12 rfl), dD_ (hoff 12 rfl), dD_ (hoff 13 rfl), dD_ (hoff 15 rfl), QX6_, QX7_, dD_ (hoff 9 rfl), dD_ (hoff 10 rfl), dD_ (hoff 11 rfl), dD_ (hoff 12 rfl)⟩
      refine steps_cons ?_ ?_
      ·rintro b a w' ⟨p, ra, rb, ge, v1, m6_, m7_, m9_, m10_, m11_, m12_, ha, QHB, QB4, QB6, QRC, QRA, QDD, QNra, QNrb, QEB, QLge, QRB, QB7, QX6_, QX7_, QX9_, QX10_, QX11_, QX12_⟩ hb_ hon hoff
       refine ⟨_, rfl, fun K hK => ?_⟩
       have e85 : a.tmps[85]? = some (.pointer (some ⟨gd, 0, none⟩)) := by rw [ha]; exact putSel_on (e := (8, 85, .pointer (some ⟨gd, 0, none⟩))) 8 rfl rfl (hon 8 rfl) rfl
       replace ha := aM_ ha
       have HB := aM_ QHB
       have B4 := aM_ QB4
       have B6 := aM_ (QB6 (hoff 15 rfl))
       have RC := aM_ QRC
       have RA := aM_ (QRA (hoff 13 rfl))
       have DD := aM_ QDD
       have Nra := aM_ (QNra (hon 6 rfl))
       refine call_ 64 #[.pointer (some ⟨gd, 0, none⟩), .int .i64 60] (by rfl) rfl ?_ ?_
       ·go_simp
       refine (next_any w gd A c l p 60 w' (by omega) (by omega) DD.out).mono ?_
       rintro e w2' ⟨r', p', rfl, hr, hs, hd'⟩
       refine ⟨_, rfl, ?_⟩
       refine hK.out _ _ ⟨p', ra, r', ge, v1, m6_, m7_, (.int .i64 r'), m10_, m11_, m12_, (by rw [ha.out]; exact putSel_upk 9 hb_ rfl rfl rfl), HB.out.trans (hs.below.mono DD.out.far), hs.blk B4.out B4.out.lt NEB4.out, fun _ => hs.blk B6.out B6.out.lt NEB6.out, Sc.R RC.out DD.out.box (by decide) hs, fun _ => Sc.R RA.out DD.out.box (by decide) hs, hd', QNra, fun _ => hr, dD_ (hoff 12 rfl), dD_ (hoff 12 rfl), dD_ (hoff 13 rfl), dD_ (hoff 15 rfl), QX6_, QX7_, fun _ => rfl, dD_ (hoff 10 rfl), dD_ (hoff 11 rfl), dD_ (hoff 12 rfl)⟩
      refine steps_cons ?_ ?_
      ·rintro b a w' ⟨p, ra, rb, ge, v1, m6_, m7_, m9_, m10_, m11_, m12_, ha, QHB, QB4, QB6, QRC, QRA, QDD, QNra, QNrb, QEB, QLge, QRB, QB7, QX6_, QX7_, QX9_, QX10_, QX11_, QX12_⟩ hb_ hon hoff
       refine ⟨_, rfl, fun K hK => ?_⟩
       have e86 : a.tmps[86]? = some (m9_) := by rw [ha]; exact putSel_on (e := (9, 86, m9_)) 9 rfl rfl (hon 9 rfl) rfl
       rw [QX9_ (hon 9 rfl)] at e86
       replace ha := aM_ ha
       have HB := aM_ QHB
       have B4 := aM_ QB4
       have B6 := aM_ (QB6 (hoff 15 rfl))
       have RC := aM_ QRC
       have RA := aM_ (QRA (hoff 13 rfl))
       have DD := aM_ QDD
       have Nra := aM_ (QNra (hon 6 rfl))
       have Nrb := aM_ (QNrb (hon 9 rfl))
       have hw := (IntWalk.i64_in (rb - 10) (by have := Nrb.out; omega) : IntKind.i64.wrap (rb - 10) = rb - 10)
       refine value_ (w1 := w') (v := .int .i64 (rb - 10)) (by rfl) rfl ?_ ?_
       ·go_simp
        (try simp only [i64_w])
        try rfl
        try assumption
       refine hK.out _ _ ⟨p, ra, rb, ge, v1, m6_, m7_, m9_, (.int .i64 (rb - 10)), m11_, m12_, (by rw [ha.out]; exact putSel_upk 10 hb_ rfl rfl rfl), QHB, QB4, QB6, QRC, QRA, QDD, QNra, QNrb, dD_ (hoff 12 rfl), dD_ (hoff 12 rfl), dD_ (hoff 13 rfl), dD_ (hoff 15 rfl), QX6_, QX7_, QX9_, fun _ => rfl, dD_ (hoff 11 rfl), dD_ (hoff 12 rfl)⟩
      refine steps_cons ?_ ?_
      ·rintro b a w' ⟨p, ra, rb, ge, v1, m6_, m7_, m9_, m10_, m11_, m12_, ha, QHB, QB4, QB6, QRC, QRA, QDD, QNra, QNrb, QEB, QLge, QRB, QB7, QX6_, QX7_, QX9_, QX10_, QX11_, QX12_⟩ hb_ hon hoff
       refine ⟨_, rfl, fun K hK => ?_⟩
       have e81 : a.tmps[81]? = some (.int .i64 (cl + k)) := by rw [ha]; exact putSel_on (e := (4, 81, .int .i64 (cl + k))) 4 rfl rfl (hon 4 rfl) rfl
       have e84 : a.tmps[84]? = some (m7_) := by rw [ha]; exact putSel_on (e := (7, 84, m7_)) 7 rfl rfl (hon 7 rfl) rfl
       rw [QX7_ (hon 7 rfl)] at e84
       have e87 : a.tmps[87]? = some (m10_) := by rw [ha]; exact putSel_on (e := (10, 87, m10_)) 10 rfl rfl (hon 10 rfl) rfl
       rw [QX10_ (hon 10 rfl)] at e87
       replace ha := aM_ ha
       have HB := aM_ QHB
       have B4 := aM_ QB4
       have B6 := aM_ (QB6 (hoff 15 rfl))
       have RC := aM_ QRC
       have RA := aM_ (QRA (hoff 13 rfl))
       have DD := aM_ QDD
       have Nra := aM_ (QNra (hon 6 rfl))
       have Nrb := aM_ (QNrb (hon 9 rfl))
       refine value_ (w1 := w') (v := .agg #[.int .i64 (cl + k), .int .i64 (ra - 10), .int .i64 (rb - 10)]) (by rfl) rfl ?_ ?_
       ·go_simp
        (try simp only [i64_w])
        try rfl
        try assumption
       refine hK.out _ _ ⟨p, ra, rb, ge, v1, m6_, m7_, m9_, m10_, (.agg #[.int .i64 (cl + k), .int .i64 (ra - 10), .int .i64 (rb - 10)]), m12_, (by rw [ha.out]; exact putSel_upk 11 hb_ rfl rfl rfl), QHB, QB4, QB6, QRC, QRA, QDD, QNra, QNrb, dD_ (hoff 12 rfl), dD_ (hoff 12 rfl), dD_ (hoff 13 rfl), dD_ (hoff 15 rfl), QX6_, QX7_, QX9_, QX10_, fun _ => rfl, dD_ (hoff 12 rfl)⟩
      refine steps_cons ?_ ?_
      ·rintro b a w' ⟨p, ra, rb, ge, v1, m6_, m7_, m9_, m10_, m11_, m12_, ha, QHB, QB4, QB6, QRC, QRA, QDD, QNra, QNrb, QEB, QLge, QRB, QB7, QX6_, QX7_, QX9_, QX10_, QX11_, QX12_⟩ hb_ hon hoff
       refine ⟨_, rfl, fun K hK => ?_⟩
       have e88 : a.tmps[88]? = some (m11_) := by rw [ha]; exact putSel_on (e := (11, 88, m11_)) 11 rfl rfl (hon 11 rfl) rfl
       rw [QX11_ (hon 11 rfl)] at e88
       replace ha := aM_ ha
       have HB := aM_ QHB
       have B4 := aM_ QB4
       have B6 := aM_ (QB6 (hoff 15 rfl))
       have RC := aM_ QRC
       have RA := aM_ (QRA (hoff 13 rfl))
       have DD := aM_ QDD
       have Nra := aM_ (QNra (hon 6 rfl))
       have Nrb := aM_ (QNrb (hon 9 rfl))
       refine value_ (w1 := w'.alloc (.cells #[.int .i64 (cl + k), .int .i64 (ra - 10), .int .i64 (rb - 10)] 25)) (v := .slice (some ⟨w'.heap.size, 0, none⟩) 1 1) (by rfl) rfl ?_ ?_
       ·go_simp
       refine hK.out _ _ ⟨p, ra, rb, w'.heap.size, v1, m6_, m7_, m9_, m10_, m11_, (.slice (some ⟨w'.heap.size, 0, none⟩) 1 1), (by rw [ha.out]; exact putSel_upk 12 hb_ rfl rfl rfl), bthen' HB.out (below_alloc (Below.refl _ w') _), B4.out.alloc _, fun _ => B6.out.alloc _, Kd.R_below RC.out (below_alloc (Below.refl _ w') _), fun _ => Kd.R_below RA.out (below_alloc (Below.refl _ w') _), DD.out.below_ (below_alloc (Below.refl _ w') _), QNra, QNrb, fun _ _ => Blk.new w' _ _ rfl, fun _ => HB.out.size, dD_ (hoff 13 rfl), dD_ (hoff 15 rfl), QX6_, QX7_, QX9_, QX10_, QX11_, fun _ => rfl⟩
      refine steps_cons ?_ ?_
      ·rintro b a w' ⟨p, ra, rb, ge, v1, m6_, m7_, m9_, m10_, m11_, m12_, ha, QHB, QB4, QB6, QRC, QRA, QDD, QNra, QNrb, QEB, QLge, QRB, QB7, QX6_, QX7_, QX9_, QX10_, QX11_, QX12_⟩ hb_ hon hoff
       refine ⟨_, rfl, fun K hK => ?_⟩
       have e78 : a.tmps[78]? = some (va) := by rw [ha]; exact putSel_on (e := (1, 78, va)) 1 rfl rfl (hon 1 rfl) rfl
       have e89 : a.tmps[89]? = some (m12_) := by rw [ha]; exact putSel_on (e := (12, 89, m12_)) 12 rfl rfl (hon 12 rfl) rfl
       rw [QX12_ (hon 12 rfl)] at e89
       replace ha := aM_ ha
       have HB := aM_ QHB
       have B4 := aM_ QB4
       have B6 := aM_ (QB6 (hoff 15 rfl))
       have RC := aM_ QRC
       have RA := aM_ (QRA hb_)
       have DD := aM_ QDD
       have Nra := aM_ (QNra (hon 6 rfl))
       have Nrb := aM_ (QNrb (hon 9 rfl))
       have EB := aM_ (QEB (hon 12 rfl) hb_)
       have Lge := aM_ (QLge (hon 12 rfl))
       obtain ⟨vv, w2, hr, o1, o2, o3⟩ := append_kd 23 25 _ 24 (by kernel_rfl) infoAn rfl (by decide) (by omega) RA.out HB.out HB.out.size ge ⟨cl + k, ra - 10, rb - 10⟩ [.int .i64 (cl + k), .int .i64 (ra - 10), .int .i64 (rb - 10)] EB.out (kI3_mkM _ _ _ ⟨cl + k, ra - 10, rb - 10⟩) (by have := HLX.out; omega)
       refine value_ (w1 := w2) (v := vv) (by rfl) rfl ?_ ?_
       ·exact run_append_opU (by rfl) e78 e89 hr
       refine hK.out _ _ ⟨p, ra, rb, ge, vv, m6_, m7_, m9_, m10_, m11_, m12_, (by rw [ha.out]; exact putSel_upk 13 hb_ rfl rfl rfl), o2, (o3.block g4 B4.out.lt (Kd.R_ne RA.out B4.out (by decide))).trans B4.out, fun _ => (o3.block g6 B6.out.lt (Kd.R_ne RA.out B6.out (by decide))).trans B6.out, R_grown_types RC.out RA.out (by decide) o3, dE_ (up_self b 13), ⟨(o3.block gd DD.out.box.lt (Kd.R_ne RA.out DD.out.box (by decide))).trans DD.out.box, DD.out.row, DD.out.at_, DD.out.far, o2⟩, QNra, QNrb, fun _ => dE_ (up_self b 13), QLge, fun _ => o1, dD_ (hoff 15 rfl), QX6_, QX7_, QX9_, QX10_, QX11_, QX12_⟩
      refine steps_cons ?_ ?_
      ·rintro b a w' ⟨p, ra, rb, ge, v1, m6_, m7_, m9_, m10_, m11_, m12_, ha, QHB, QB4, QB6, QRC, QRA, QDD, QNra, QNrb, QEB, QLge, QRB, QB7, QX6_, QX7_, QX9_, QX10_, QX11_, QX12_⟩ hb_ hon hoff
       refine ⟨_, rfl, fun K hK => ?_⟩
       have e6 : a.tmps[6]? = some (.pointer (some ⟨g6, 0, none⟩)) := by rw [ha]; exact (putSel_off rfl).trans rfl
       replace ha := aM_ ha
       have HB := aM_ QHB
       have B4 := aM_ QB4
       have B6 := aM_ (QB6 (hoff 15 rfl))
       have RC := aM_ QRC
       have DD := aM_ QDD
       have Nra := aM_ (QNra (hon 6 rfl))
       have Nrb := aM_ (QNrb (hon 9 rfl))
       have Lge := aM_ (QLge (hon 12 rfl))
       have RB := aM_ (QRB (hon 13 rfl))
       refine value_ (w1 := w') (v := .pointer (some ⟨g6, 1, none⟩)) (by rfl) rfl ?_ ?_
       ·go_simp
        (try simp only [i64_w])
        try rfl
        try assumption
       refine hK.out _ _ ⟨p, ra, rb, ge, v1, m6_, m7_, m9_, m10_, m11_, m12_, (by rw [ha.out]; exact putSel_upk 14 hb_ rfl rfl rfl), QHB, QB4, QB6, QRC, fun h0_ => absurd ((hon 13 rfl).symm.trans h0_) (by decide), QDD, QNra, QNrb, fun _ => dE_ (hon 13 rfl), QLge, QRB, dD_ (hoff 15 rfl), QX6_, QX7_, QX9_, QX10_, QX11_, QX12_⟩
      refine steps_cons ?_ ?_
      ·rintro b a w' ⟨p, ra, rb, ge, v1, m6_, m7_, m9_, m10_, m11_, m12_, ha, QHB, QB4, QB6, QRC, QRA, QDD, QNra, QNrb, QEB, QLge, QRB, QB7, QX6_, QX7_, QX9_, QX10_, QX11_, QX12_⟩ hb_ hon hoff
       refine ⟨_, rfl, fun K hK => ?_⟩
       have e91 : a.tmps[91]? = some (.pointer (some ⟨g6, 1, none⟩)) := by rw [ha]; exact putSel_on (e := (14, 91, .pointer (some ⟨g6, 1, none⟩))) 14 rfl rfl (hon 14 rfl) rfl
       have e90 : a.tmps[90]? = some (v1) := by rw [ha]; exact putSel_on (e := (13, 90, v1)) 13 rfl rfl (hon 13 rfl) rfl
       replace ha := aM_ ha
       have HB := aM_ QHB
       have B4 := aM_ QB4
       have B6 := aM_ (QB6 hb_)
       have RC := aM_ QRC
       have DD := aM_ QDD
       have Nra := aM_ (QNra (hon 6 rfl))
       have Nrb := aM_ (QNrb (hon 9 rfl))
       have Lge := aM_ (QLge (hon 12 rfl))
       have RB := aM_ (QRB (hon 13 rfl))
       have c1 := B6.out.cell 1
       simp only [gA_, gZ_, gS_] at c1
       have f1 := B6.out.frozen 1
       obtain ⟨A2, c2, hv2⟩ := Kd.R_slice RB.out
       have ho : v1.oneCell' = true := by rw [hv2]; rfl
       refine skip_ (w1 := (w'.setCell ⟨g6, 1, none⟩ (v1))) (by rfl) rfl ?_ ?_
       ·go_simp
       refine hK.out _ _ ⟨p, ra, rb, ge, v1, m6_, m7_, m9_, m10_, m11_, m12_, (by rw [ha.out]; exact putSel_none (v := undef) rfl), (bset HB.out HG6.out 1 (v1)), (B4.out.far N46.out 1 (v1)), dE_ (up_self b 15), (Kd.R_set RC.out B6.out (by decide) 1 (v1)), fun h0_ => absurd ((hon 13 rfl).symm.trans h0_) (by decide), ⟨(DD.out.box.far (Ne.symm NEB6.out) 1 (v1)), DD.out.row, DD.out.at_, DD.out.far, (bset HB.out HG6.out 1 (v1))⟩, QNra, QNrb, fun _ => dE_ (hon 13 rfl), QLge, fun _ => (Kd.R_set RB.out B6.out (by decide) 1 (v1)), fun _ => (B6.out.put 1 (v1) rfl), QX6_, QX7_, QX9_, QX10_, QX11_, QX12_⟩
      exact steps_nil
     ·rintro b a w' hall ⟨p, ra, rb, ge, v1, m6_, m7_, m9_, m10_, m11_, m12_, ha, QHB, QB4, QB6, QRC, QRA, QDD, QNra, QNrb, QEB, QLge, QRB, QB7, QX6_, QX7_, QX9_, QX10_, QX11_, QX12_⟩
      clear B4 B6 DD HB RA RC
      have hb0_ := hall 0 (by kernel_rfl)
      have hb1_ := hall 1 (by kernel_rfl)
      have hb2_ := hall 2 (by kernel_rfl)
      have hb3_ := hall 3 (by kernel_rfl)
      have hb4_ := hall 4 (by kernel_rfl)
      have hb5_ := hall 5 (by kernel_rfl)
      have hb6_ := hall 6 (by kernel_rfl)
      have hb7_ := hall 7 (by kernel_rfl)
      have hb8_ := hall 8 (by kernel_rfl)
      have hb9_ := hall 9 (by kernel_rfl)
      have hb10_ := hall 10 (by kernel_rfl)
      have hb11_ := hall 11 (by kernel_rfl)
      have hb12_ := hall 12 (by kernel_rfl)
      have hb13_ := hall 13 (by kernel_rfl)
      have hb14_ := hall 14 (by kernel_rfl)
      have hb15_ := hall 15 (by kernel_rfl)
      subst ha
      obtain rfl := QX6_ hb6_
      obtain rfl := QX7_ hb7_
      obtain rfl := QX9_ hb9_
      obtain rfl := QX10_ hb10_
      obtain rfl := QX11_ hb11_
      obtain rfl := QX12_ hb12_
      simp only [putSel, hb0_, hb1_, hb2_, hb3_, hb4_, hb5_, hb6_, hb7_, hb8_, hb9_, hb10_, hb11_, hb12_, hb13_, hb14_, hb15_, if_true, Act.put, List.setIfInBounds_toArray, List.set_cons_zero, List.set_cons_succ]
      have HB := aM_ QHB
      clear QHB
      have B4 := aM_ QB4
      clear QB4
      clear QB6
      have RC := aM_ QRC
      clear QRC
      clear QRA
      have DD := aM_ QDD
      clear QDD
      have Nra := aM_ (QNra hb6_)
      clear QNra
      have Nrb := aM_ (QNrb hb9_)
      clear QNrb
      clear QEB
      have Lge := aM_ (QLge hb12_)
      clear QLge
      have RB := aM_ (QRB hb13_)
      clear QRB
      have B7 := aM_ (QB7 hb15_)
      clear QB7
      clear hall hb0_ hb1_ hb2_ hb3_ hb4_ hb5_ hb6_ hb7_ hb8_ hb9_ hb10_ hb11_ hb12_ hb13_ hb14_ hb15_
      generalize w' = w4 at *
      have HD4 := lH_ DD.out
      have RB4 := lH_ RB.out
      have B74 := lH_ B7.out
      have B44 := lH_ B4.out
      have RC4 := lH_ RC.out
      have HAB := lH_ (an_snoc HLA.out HOKA.out (show -10 ≤ ra - 10 ∧ ra - 10 ≤ 100 by have := Nra.out; omega) (show -10 ≤ rb - 10 ∧ rb - 10 ≤ 100 by have := Nrb.out; omega))
      clear HB DD RB B7 B4 RC
      go_wp2_with fail
      exact ⟨⟨k + 1, an ++ [⟨cl + k, ra - 10, rb - 10⟩], v1, by go_num, by have := HKA.out; omega, lH_ (by rw [List.length_append, HLA.out]; rfl), HAB, B44, B74, RC4, RB4, lH_ ⟨_, HD4.out⟩⟩, by have := HKA.out; simp [intOf]; omega⟩
    ·have d1 : decide (k < ma) = false := decide_eq_false hlt
     have d2 : decide ((k : Int) < (ma : Int)) = false := decide_eq_false (by omega)
     have HLAN := lH_ (show an.length ≤ 2 by have := HLA.out; have := HMA.out; omega)
     clear hlt hk
     go_wp2_with fail
     clear d1 d2
     refine (next_any w gd A c l _ 3 wr (by omega) (by omega) HD.out).mono ?_
     rintro e q13 ⟨r13, p13, rfl, hr13, hs, hd⟩
     replace B4 := lH_ (hs.blk B4.out B4.out.lt NEB4.out)
     replace B6 := lH_ (hs.blk B6.out B6.out.lt NEB6.out)
     replace RC := lH_ (Sc.R RC.out HD.out.box (by decide) hs)
     replace RA := lH_ (Sc.R RA.out HD.out.box (by decide) hs)
     have HZ13 := lH_ hs.size
     replace HD := lH_ hd
     clear hs hd
     by_cases hz0 : r13 = 0
     ·subst hz0
      clear hr13
      go_wp2_with fail
      refine (next_any w gd A c l _ 3 q13 (by omega) (by omega) HD.out).mono ?_
      rintro e q14 ⟨r14, p14, rfl, hr14, hs, hd⟩
      replace B4 := lH_ (hs.blk B4.out B4.out.lt NEB4.out)
      replace B6 := lH_ (hs.blk B6.out B6.out.lt NEB6.out)
      replace RC := lH_ (Sc.R RC.out HD.out.box (by decide) hs)
      replace RA := lH_ (Sc.R RA.out HD.out.box (by decide) hs)
      have HZ14 := lH_ hs.size
      replace HD := lH_ hd
      clear hs hd
      have ha14 : IntKind.i64.wrap (1 + r14) = 1 + r14 := IntWalk.i64_in _ (by omega)
      go_wp2_with fail
      refine (next_any w gd A c l _ 60 q14 (by omega) (by omega) HD.out).mono ?_
      rintro e q15 ⟨r15, p15, rfl, hr15, hs, hd⟩
      replace B4 := lH_ (hs.blk B4.out B4.out.lt NEB4.out)
      replace B6 := lH_ (hs.blk B6.out B6.out.lt NEB6.out)
      replace RC := lH_ (Sc.R RC.out HD.out.box (by decide) hs)
      replace RA := lH_ (Sc.R RA.out HD.out.box (by decide) hs)
      have HZ15 := lH_ hs.size
      replace HD := lH_ hd
      clear hs hd
      have ha15 : IntKind.i64.wrap (r15 - 10) = r15 - 10 := IntWalk.i64_in _ (by omega)
      go_wp2_with fail
      refine (next_any w gd A c l _ 60 q15 (by omega) (by omega) HD.out).mono ?_
      rintro e q16 ⟨r16, p16, rfl, hr16, hs, hd⟩
      replace B4 := lH_ (hs.blk B4.out B4.out.lt NEB4.out)
      replace B6 := lH_ (hs.blk B6.out B6.out.lt NEB6.out)
      replace RC := lH_ (Sc.R RC.out HD.out.box (by decide) hs)
      replace RA := lH_ (Sc.R RA.out HD.out.box (by decide) hs)
      have HZ16 := lH_ hs.size
      replace HD := lH_ hd
      clear hs hd
      have ha16 : IntKind.i64.wrap (r16 - 10) = r16 - 10 := IntWalk.i64_in _ (by omega)
      have c2_ := B6.out.cell 2
      have c3_ := B6.out.cell 3
      have c4_ := B6.out.cell 4
      have f2_ := B6.out.frozen 2
      have f3_ := B6.out.frozen 3
      have f4_ := B6.out.frozen 4
      simp only [gA_, gZ_, gS_] at c2_ c3_ c4_
      go_upto_region 25 with fail
      obtain ⟨hg, hhg⟩ : ∃ hg : I3, hg = ⟨1 + r14, r15 - 10, r16 - 10⟩ := ⟨_, rfl⟩
      have HHG := lH_ (show HangOk hg by rw [hhg]; exact .inr (by dsimp only; omega))
      have e1_ : 1 + r14 = hg.a := by rw [hhg]
      have e2_ : r15 - 10 = hg.b := by rw [hhg]
      have e3_ : r16 - 10 = hg.c := by rw [hhg]
      rw [e1_, e2_, e3_]
      replace B4 := lH_ (((B4.out.far N46.out 2 (.int .i64 hg.a)).far N46.out 3 (.int .i64 hg.b)).far N46.out 4 (.int .i64 hg.c))
      replace HD : Hid (Dr w gd A c l _ _) := lH_ ⟨((HD.out.box.far (Ne.symm NEB6.out) 2 (.int .i64 hg.a)).far (Ne.symm NEB6.out) 3 (.int .i64 hg.b)).far (Ne.symm NEB6.out) 4 (.int .i64 hg.c), HD.out.row, HD.out.at_, HD.out.far, bset (bset (bset HD.out.below HG6.out 2 (.int .i64 hg.a)) HG6.out 3 (.int .i64 hg.b)) HG6.out 4 (.int .i64 hg.c)⟩
      replace RC := lH_ (Kd.R_set (Kd.R_set (Kd.R_set RC.out B6.out (by decide) 2 (.int .i64 hg.a)) (B6.out.set 2 (.int .i64 hg.a)) (by decide) 3 (.int .i64 hg.b)) ((B6.out.set 2 (.int .i64 hg.a)).set 3 (.int .i64 hg.b)) (by decide) 4 (.int .i64 hg.c))
      replace RA := lH_ (Kd.R_set (Kd.R_set (Kd.R_set RA.out B6.out (by decide) 2 (.int .i64 hg.a)) (B6.out.set 2 (.int .i64 hg.a)) (by decide) 3 (.int .i64 hg.b)) ((B6.out.set 2 (.int .i64 hg.a)).set 3 (.int .i64 hg.b)) (by decide) 4 (.int .i64 hg.c))
      replace B6 : Hid (Blk _ g6 #[vc, va, .int .i64 hg.a, .int .i64 hg.b, .int .i64 hg.c, .int .i64 adv, .slice none 0 0, .slice none 0 0] 29) := lH_ (((B6.out.put 2 (.int .i64 hg.a) rfl).put 3 (.int .i64 hg.b) rfl).put 4 (.int .i64 hg.c) rfl)
      clear c2_ c3_ c4_ f2_ f3_ f4_ e1_ e2_ e3_ hhg ha14 ha15 ha16 hr14 hr15 hr16 HZ13 HZ14 HZ15 HZ16
      generalize World.setCell (World.setCell _ _ _) _ _ = wh at *
      go_upto_region 26 with fail
      have HL2 := lH_ (show cs.length ≤ 2 from HCS.out)
      refine made_loop4 w gd g4 g6 A c l cs an hg adv vc va R wh _ hR HL2.out HOKC.out HLAN.out NEB4.out NEB6.out N46.out HG6.out ⟨B4.out, B6.out, RC.out, RA.out, Kd.R_nil _ _ _ _ _, ⟨_, HD.out⟩, ⟨Nat.zero_le _, rfl⟩⟩ _ _ _ _ _ _ _ _ _ _ _ _ _ _ _ _ _ _ _ _ _ _ _ _ _ _ _ _ _ _ _ _ _ _ _ _ _ _ _ _ _ _ _ _ _ _ _ _ _ _ _ _ _ _ _ _ _ _ _ _ _ _ _ _ _ _ _ _ _ _ _ _ _ _ _ _ _ _ _ _ _ _ _ _ _ _ _ _ _ _ _ _ _ _ _ _ _ _ _ _ _ _ _ _ _ _ _ _ _ _ _ _ _ _ _ _ _ _ _ _ _ _ _ _ _ _ _ ?_
      rintro ke dls vd W y106 y107 y108 y109 y110 y111 y112 y113 y114 y115 y116 y117 y118 y119 y120 y121 y122 y123 y124 y125 y126 y127 y128 hI
      have HI := lH_ hI
      clear hI
      obtain ⟨Ad, kd, rfl⟩ := Kd.R_slice HI.out.rd
      obtain ⟨Ac, kc, rfl⟩ := Kd.R_slice HI.out.rc
      obtain ⟨Aa, ka, rfl⟩ := Kd.R_slice HI.out.ra
      have c0_ := HI.out.b6.cell 0
      have c1_ := HI.out.b6.cell 1
      have c2_ := HI.out.b6.cell 2
      have c3_ := HI.out.b6.cell 3
      have c4_ := HI.out.b6.cell 4
      have c5_ := HI.out.b6.cell 5
      have c6_ := HI.out.b6.cell 6
      have c7_ := HI.out.b6.cell 7
      have x0_ := HI.out.b4.cell 0
      have x1_ := HI.out.b4.cell 1
      have x2_ := HI.out.b4.cell 2
      have x3_ := HI.out.b4.cell 3
      have x4_ := HI.out.b4.cell 4
      have x5_ := HI.out.b4.cell 5
      have x6_ := HI.out.b4.cell 6
      have x7_ := HI.out.b4.cell 7
      have f0_ := HI.out.b4.frozen 0
      have f1_ := HI.out.b4.frozen 1
      have f2_ := HI.out.b4.frozen 2
      have f3_ := HI.out.b4.frozen 3
      have f4_ := HI.out.b4.frozen 4
      have f5_ := HI.out.b4.frozen 5
      have f6_ := HI.out.b4.frozen 6
      have f7_ := HI.out.b4.frozen 7
      simp only [gA_, gZ_, gS_] at c0_ c1_ c2_ c3_ c4_ c5_ c6_ c7_ x0_ x1_ x2_ x3_ x4_ x5_ x6_ x7_
      obtain ⟨pz, hdz⟩ := HI.out.dr
      have HIB := lH_ hdz.below
      clear hdz
      go_wp2_with fail
      refine bodyPost_ret (res_c (g := g4) rfl _ _ _ _ _ rfl ((((((((HI.out.b4.put 0 (.slice Ac cs.length kc) rfl).put 1 (.slice Aa an.length ka) rfl).put 2 (.int .i64 hg.a) rfl).put 3 (.int .i64 hg.b) rfl).put 4 (.int .i64 hg.c) rfl).put 5 (.int .i64 adv) rfl).put 6 (.slice Ad dls.length kd) rfl).put 7 (.slice none 0 0) rfl) rfl Try.underlying29 (by kernel_rfl)) rfl ⟨⟨cs, an, hg, adv, dls, []⟩, ⟨Ac, kc, Aa, ka, Ad, kd, none, 0⟩, rfl, ⟨(Kd.R_set (Kd.R_set (Kd.R_set (Kd.R_set (Kd.R_set (Kd.R_set (Kd.R_set (Kd.R_set HI.out.rc HI.out.b4 (by decide) 0 (.slice Ac cs.length kc)) (HI.out.b4.set 0 (.slice Ac cs.length kc)) (by decide) 1 (.slice Aa an.length ka)) ((HI.out.b4.set 0 (.slice Ac cs.length kc)).set 1 (.slice Aa an.length ka)) (by decide) 2 (.int .i64 hg.a)) (((HI.out.b4.set 0 (.slice Ac cs.length kc)).set 1 (.slice Aa an.length ka)).set 2 (.int .i64 hg.a)) (by decide) 3 (.int .i64 hg.b)) ((((HI.out.b4.set 0 (.slice Ac cs.length kc)).set 1 (.slice Aa an.length ka)).set 2 (.int .i64 hg.a)).set 3 (.int .i64 hg.b)) (by decide) 4 (.int .i64 hg.c)) (((((HI.out.b4.set 0 (.slice Ac cs.length kc)).set 1 (.slice Aa an.length ka)).set 2 (.int .i64 hg.a)).set 3 (.int .i64 hg.b)).set 4 (.int .i64 hg.c)) (by decide) 5 (.int .i64 adv)) ((((((HI.out.b4.set 0 (.slice Ac cs.length kc)).set 1 (.slice Aa an.length ka)).set 2 (.int .i64 hg.a)).set 3 (.int .i64 hg.b)).set 4 (.int .i64 hg.c)).set 5 (.int .i64 adv)) (by decide) 6 (.slice Ad dls.length kd)) (((((((HI.out.b4.set 0 (.slice Ac cs.length kc)).set 1 (.slice Aa an.length ka)).set 2 (.int .i64 hg.a)).set 3 (.int .i64 hg.b)).set 4 (.int .i64 hg.c)).set 5 (.int .i64 adv)).set 6 (.slice Ad dls.length kd)) (by decide) 7 (.slice none 0 0)), (Kd.R_set (Kd.R_set (Kd.R_set (Kd.R_set (Kd.R_set (Kd.R_set (Kd.R_set (Kd.R_set HI.out.ra HI.out.b4 (by decide) 0 (.slice Ac cs.length kc)) (HI.out.b4.set 0 (.slice Ac cs.length kc)) (by decide) 1 (.slice Aa an.length ka)) ((HI.out.b4.set 0 (.slice Ac cs.length kc)).set 1 (.slice Aa an.length ka)) (by decide) 2 (.int .i64 hg.a)) (((HI.out.b4.set 0 (.slice Ac cs.length kc)).set 1 (.slice Aa an.length ka)).set 2 (.int .i64 hg.a)) (by decide) 3 (.int .i64 hg.b)) ((((HI.out.b4.set 0 (.slice Ac cs.length kc)).set 1 (.slice Aa an.length ka)).set 2 (.int .i64 hg.a)).set 3 (.int .i64 hg.b)) (by decide) 4 (.int .i64 hg.c)) (((((HI.out.b4.set 0 (.slice Ac cs.length kc)).set 1 (.slice Aa an.length ka)).set 2 (.int .i64 hg.a)).set 3 (.int .i64 hg.b)).set 4 (.int .i64 hg.c)) (by decide) 5 (.int .i64 adv)) ((((((HI.out.b4.set 0 (.slice Ac cs.length kc)).set 1 (.slice Aa an.length ka)).set 2 (.int .i64 hg.a)).set 3 (.int .i64 hg.b)).set 4 (.int .i64 hg.c)).set 5 (.int .i64 adv)) (by decide) 6 (.slice Ad dls.length kd)) (((((((HI.out.b4.set 0 (.slice Ac cs.length kc)).set 1 (.slice Aa an.length ka)).set 2 (.int .i64 hg.a)).set 3 (.int .i64 hg.b)).set 4 (.int .i64 hg.c)).set 5 (.int .i64 adv)).set 6 (.slice Ad dls.length kd)) (by decide) 7 (.slice none 0 0)), (Kd.R_set (Kd.R_set (Kd.R_set (Kd.R_set (Kd.R_set (Kd.R_set (Kd.R_set (Kd.R_set HI.out.rd HI.out.b4 (by decide) 0 (.slice Ac cs.length kc)) (HI.out.b4.set 0 (.slice Ac cs.length kc)) (by decide) 1 (.slice Aa an.length ka)) ((HI.out.b4.set 0 (.slice Ac cs.length kc)).set 1 (.slice Aa an.length ka)) (by decide) 2 (.int .i64 hg.a)) (((HI.out.b4.set 0 (.slice Ac cs.length kc)).set 1 (.slice Aa an.length ka)).set 2 (.int .i64 hg.a)) (by decide) 3 (.int .i64 hg.b)) ((((HI.out.b4.set 0 (.slice Ac cs.length kc)).set 1 (.slice Aa an.length ka)).set 2 (.int .i64 hg.a)).set 3 (.int .i64 hg.b)) (by decide) 4 (.int .i64 hg.c)) (((((HI.out.b4.set 0 (.slice Ac cs.length kc)).set 1 (.slice Aa an.length ka)).set 2 (.int .i64 hg.a)).set 3 (.int .i64 hg.b)).set 4 (.int .i64 hg.c)) (by decide) 5 (.int .i64 adv)) ((((((HI.out.b4.set 0 (.slice Ac cs.length kc)).set 1 (.slice Aa an.length ka)).set 2 (.int .i64 hg.a)).set 3 (.int .i64 hg.b)).set 4 (.int .i64 hg.c)).set 5 (.int .i64 adv)) (by decide) 6 (.slice Ad dls.length kd)) (((((((HI.out.b4.set 0 (.slice Ac cs.length kc)).set 1 (.slice Aa an.length ka)).set 2 (.int .i64 hg.a)).set 3 (.int .i64 hg.b)).set 4 (.int .i64 hg.c)).set 5 (.int .i64 adv)).set 6 (.slice Ad dls.length kd)) (by decide) 7 (.slice none 0 0)), ⟨rfl, rfl⟩⟩, made_chk cs an hg adv cl dls R hR HL2.out HOKC.out HLAN.out HOKA.out HCL.out HHG.out HADV.out HI.out.ok, (bset (bset (bset (bset (bset (bset (bset (bset HIB.out HG4.out 0 (.slice Ac cs.length kc)) HG4.out 1 (.slice Aa an.length ka)) HG4.out 2 (.int .i64 hg.a)) HG4.out 3 (.int .i64 hg.b)) HG4.out 4 (.int .i64 hg.c)) HG4.out 5 (.int .i64 adv)) HG4.out 6 (.slice Ad dls.length kd)) HG4.out 7 (.slice none 0 0))⟩
     ·have hz1 : decide (r13 = 0) = false := decide_eq_false hz0
      have hz2 : (r13 == 0) = false := by simpa using hz0
      clear hz0
      go_upto_region 25 with fail
      obtain ⟨hg, hhg⟩ : ∃ hg : I3, hg = ⟨0, 0, 0⟩ := ⟨_, rfl⟩
      have HHG := lH_ (show HangOk hg from .inl hhg)
      replace B6 : Hid (Blk q13 g6 #[vc, va, .int .i64 hg.a, .int .i64 hg.b, .int .i64 hg.c, .int .i64 adv, .slice none 0 0, .slice none 0 0] 29) := lH_ (by rw [hhg]; exact B6.out)
      clear hhg hz1 hz2 hr13 HZ13
      generalize q13 = wh at *
      go_upto_region 26 with fail
      have HL2 := lH_ (show cs.length ≤ 2 from HCS.out)
      refine made_loop4 w gd g4 g6 A c l cs an hg adv vc va R wh _ hR HL2.out HOKC.out HLAN.out NEB4.out NEB6.out N46.out HG6.out ⟨B4.out, B6.out, RC.out, RA.out, Kd.R_nil _ _ _ _ _, ⟨_, HD.out⟩, ⟨Nat.zero_le _, rfl⟩⟩ _ _ _ _ _ _ _ _ _ _ _ _ _ _ _ _ _ _ _ _ _ _ _ _ _ _ _ _ _ _ _ _ _ _ _ _ _ _ _ _ _ _ _ _ _ _ _ _ _ _ _ _ _ _ _ _ _ _ _ _ _ _ _ _ _ _ _ _ _ _ _ _ _ _ _ _ _ _ _ _ _ _ _ _ _ _ _ _ _ _ _ _ _ _ _ _ _ _ _ _ _ _ _ _ _ _ _ _ _ _ _ _ _ _ _ _ _ _ _ _ _ _ _ _ _ _ _ ?_
      rintro ke dls vd W y106 y107 y108 y109 y110 y111 y112 y113 y114 y115 y116 y117 y118 y119 y120 y121 y122 y123 y124 y125 y126 y127 y128 hI
      have HI := lH_ hI
      clear hI
      obtain ⟨Ad, kd, rfl⟩ := Kd.R_slice HI.out.rd
      obtain ⟨Ac, kc, rfl⟩ := Kd.R_slice HI.out.rc
      obtain ⟨Aa, ka, rfl⟩ := Kd.R_slice HI.out.ra
      have c0_ := HI.out.b6.cell 0
      have c1_ := HI.out.b6.cell 1
      have c2_ := HI.out.b6.cell 2
      have c3_ := HI.out.b6.cell 3
      have c4_ := HI.out.b6.cell 4
      have c5_ := HI.out.b6.cell 5
      have c6_ := HI.out.b6.cell 6
      have c7_ := HI.out.b6.cell 7
      have x0_ := HI.out.b4.cell 0
      have x1_ := HI.out.b4.cell 1
      have x2_ := HI.out.b4.cell 2
      have x3_ := HI.out.b4.cell 3
      have x4_ := HI.out.b4.cell 4
      have x5_ := HI.out.b4.cell 5
      have x6_ := HI.out.b4.cell 6
      have x7_ := HI.out.b4.cell 7
      have f0_ := HI.out.b4.frozen 0
      have f1_ := HI.out.b4.frozen 1
      have f2_ := HI.out.b4.frozen 2
      have f3_ := HI.out.b4.frozen 3
      have f4_ := HI.out.b4.frozen 4
      have f5_ := HI.out.b4.frozen 5
      have f6_ := HI.out.b4.frozen 6
      have f7_ := HI.out.b4.frozen 7
      simp only [gA_, gZ_, gS_] at c0_ c1_ c2_ c3_ c4_ c5_ c6_ c7_ x0_ x1_ x2_ x3_ x4_ x5_ x6_ x7_
      obtain ⟨pz, hdz⟩ := HI.out.dr
      have HIB := lH_ hdz.below
      clear hdz
      go_wp2_with fail
      refine bodyPost_ret (res_c (g := g4) rfl _ _ _ _ _ rfl ((((((((HI.out.b4.put 0 (.slice Ac cs.length kc) rfl).put 1 (.slice Aa an.length ka) rfl).put 2 (.int .i64 hg.a) rfl).put 3 (.int .i64 hg.b) rfl).put 4 (.int .i64 hg.c) rfl).put 5 (.int .i64 adv) rfl).put 6 (.slice Ad dls.length kd) rfl).put 7 (.slice none 0 0) rfl) rfl Try.underlying29 (by kernel_rfl)) rfl ⟨⟨cs, an, hg, adv, dls, []⟩, ⟨Ac, kc, Aa, ka, Ad, kd, none, 0⟩, rfl, ⟨(Kd.R_set (Kd.R_set (Kd.R_set (Kd.R_set (Kd.R_set (Kd.R_set (Kd.R_set (Kd.R_set HI.out.rc HI.out.b4 (by decide) 0 (.slice Ac cs.length kc)) (HI.out.b4.set 0 (.slice Ac cs.length kc)) (by decide) 1 (.slice Aa an.length ka)) ((HI.out.b4.set 0 (.slice Ac cs.length kc)).set 1 (.slice Aa an.length ka)) (by decide) 2 (.int .i64 hg.a)) (((HI.out.b4.set 0 (.slice Ac cs.length kc)).set 1 (.slice Aa an.length ka)).set 2 (.int .i64 hg.a)) (by decide) 3 (.int .i64 hg.b)) ((((HI.out.b4.set 0 (.slice Ac cs.length kc)).set 1 (.slice Aa an.length ka)).set 2 (.int .i64 hg.a)).set 3 (.int .i64 hg.b)) (by decide) 4 (.int .i64 hg.c)) (((((HI.out.b4.set 0 (.slice Ac cs.length kc)).set 1 (.slice Aa an.length ka)).set 2 (.int .i64 hg.a)).set 3 (.int .i64 hg.b)).set 4 (.int .i64 hg.c)) (by decide) 5 (.int .i64 adv)) ((((((HI.out.b4.set 0 (.slice Ac cs.length kc)).set 1 (.slice Aa an.length ka)).set 2 (.int .i64 hg.a)).set 3 (.int .i64 hg.b)).set 4 (.int .i64 hg.c)).set 5 (.int .i64 adv)) (by decide) 6 (.slice Ad dls.length kd)) (((((((HI.out.b4.set 0 (.slice Ac cs.length kc)).set 1 (.slice Aa an.length ka)).set 2 (.int .i64 hg.a)).set 3 (.int .i64 hg.b)).set 4 (.int .i64 hg.c)).set 5 (.int .i64 adv)).set 6 (.slice Ad dls.length kd)) (by decide) 7 (.slice none 0 0)), (Kd.R_set (Kd.R_set (Kd.R_set (Kd.R_set (Kd.R_set (Kd.R_set (Kd.R_set (Kd.R_set HI.out.ra HI.out.b4 (by decide) 0 (.slice Ac cs.length kc)) (HI.out.b4.set 0 (.slice Ac cs.length kc)) (by decide) 1 (.slice Aa an.length ka)) ((HI.out.b4.set 0 (.slice Ac cs.length kc)).set 1 (.slice Aa an.length ka)) (by decide) 2 (.int .i64 hg.a)) (((HI.out.b4.set 0 (.slice Ac cs.length kc)).set 1 (.slice Aa an.length ka)).set 2 (.int .i64 hg.a)) (by decide) 3 (.int .i64 hg.b)) ((((HI.out.b4.set 0 (.slice Ac cs.length kc)).set 1 (.slice Aa an.length ka)).set 2 (.int .i64 hg.a)).set 3 (.int .i64 hg.b)) (by decide) 4 (.int .i64 hg.c)) (((((HI.out.b4.set 0 (.slice Ac cs.length kc)).set 1 (.slice Aa an.length ka)).set 2 (.int .i64 hg.a)).set 3 (.int .i64 hg.b)).set 4 (.int .i64 hg.c)) (by decide) 5 (.int .i64 adv)) ((((((HI.out.b4.set 0 (.slice Ac cs.length kc)).set 1 (.slice Aa an.length ka)).set 2 (.int .i64 hg.a)).set 3 (.int .i64 hg.b)).set 4 (.int .i64 hg.c)).set 5 (.int .i64 adv)) (by decide) 6 (.slice Ad dls.length kd)) (((((((HI.out.b4.set 0 (.slice Ac cs.length kc)).set 1 (.slice Aa an.length ka)).set 2 (.int .i64 hg.a)).set 3 (.int .i64 hg.b)).set 4 (.int .i64 hg.c)).set 5 (.int .i64 adv)).set 6 (.slice Ad dls.length kd)) (by decide) 7 (.slice none 0 0)), (Kd.R_set (Kd.R_set (Kd.R_set (Kd.R_set (Kd.R_set (Kd.R_set (Kd.R_set (Kd.R_set HI.out.rd HI.out.b4 (by decide) 0 (.slice Ac cs.length kc)) (HI.out.b4.set 0 (.slice Ac cs.length kc)) (by decide) 1 (.slice Aa an.length ka)) ((HI.out.b4.set 0 (.slice Ac cs.length kc)).set 1 (.slice Aa an.length ka)) (by decide) 2 (.int .i64 hg.a)) (((HI.out.b4.set 0 (.slice Ac cs.length kc)).set 1 (.slice Aa an.length ka)).set 2 (.int .i64 hg.a)) (by decide) 3 (.int .i64 hg.b)) ((((HI.out.b4.set 0 (.slice Ac cs.length kc)).set 1 (.slice Aa an.length ka)).set 2 (.int .i64 hg.a)).set 3 (.int .i64 hg.b)) (by decide) 4 (.int .i64 hg.c)) (((((HI.out.b4.set 0 (.slice Ac cs.length kc)).set 1 (.slice Aa an.length ka)).set 2 (.int .i64 hg.a)).set 3 (.int .i64 hg.b)).set 4 (.int .i64 hg.c)) (by decide) 5 (.int .i64 adv)) ((((((HI.out.b4.set 0 (.slice Ac cs.length kc)).set 1 (.slice Aa an.length ka)).set 2 (.int .i64 hg.a)).set 3 (.int .i64 hg.b)).set 4 (.int .i64 hg.c)).set 5 (.int .i64 adv)) (by decide) 6 (.slice Ad dls.length kd)) (((((((HI.out.b4.set 0 (.slice Ac cs.length kc)).set 1 (.slice Aa an.length ka)).set 2 (.int .i64 hg.a)).set 3 (.int .i64 hg.b)).set 4 (.int .i64 hg.c)).set 5 (.int .i64 adv)).set 6 (.slice Ad dls.length kd)) (by decide) 7 (.slice none 0 0)), ⟨rfl, rfl⟩⟩, made_chk cs an hg adv cl dls R hR HL2.out HOKC.out HLAN.out HOKA.out HCL.out HHG.out HADV.out HI.out.ok, (bset (bset (bset (bset (bset (bset (bset (bset HIB.out HG4.out 0 (.slice Ac cs.length kc)) HG4.out 1 (.slice Aa an.length ka)) HG4.out 2 (.int .i64 hg.a)) HG4.out 3 (.int .i64 hg.b)) HG4.out 4 (.int .i64 hg.c)) HG4.out 5 (.int .i64 adv)) HG4.out 6 (.slice Ad dls.length kd)) HG4.out 7 (.slice none 0 0))⟩

end Go.Proofs.Ythpccdhmppbkfaa