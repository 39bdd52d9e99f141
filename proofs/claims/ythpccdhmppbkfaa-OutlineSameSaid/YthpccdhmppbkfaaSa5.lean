/- OAta, OAtb, OAtc, OAtd, OAtt, OEq, OEqM, OEqF: merged by wip/prune.py. -/
import Derived.BigFrameIn
import Derived.Test.YthpccdhmppbkfaaSa4
/- outline's At$1; what a right glyph says. -/
set_option linter.unusedVariables false
set_option linter.unusedSimpArgs false
set_option maxRecDepth 100000
set_option maxHeartbeats 16000000
namespace Go.Proofs.Ythpccdhmppbkfaa
open Go.RowKit Go.Shelf Go.Proofs.YthpccdhmppbkfaaW.PrintWords Go.Proofs.YthpccdhmppbkfaaW.PrintLast Go.Proofs.YthpccdhmppbkfaaW.PrintMore
theorem storeFn {P : Program} {w : World} {a : Addr} {m : Mode} (fn : Fn) (first captured : Array Value) : (store a (.func fn first captured) m).run P w = stored P w a (.func fn first captured) m := run_store P w a _ m rfl
theorem at1_any (r : List I3) (A : Option Addr) (c : Nat) (n : Nat) (Ba : Option Addr) (ca b : Nat) (w : World) (hC : Kd.C kI3 w A r.length r) (hb : w.cell? ⟨b, 0, none⟩ = some (.slice Ba n ca)) (hn : n ≤ 9223372036854775807) : Calls Try.prog 44 #[.agg #[.slice A r.length c], .pointer (some ⟨b, 0, none⟩)] w fun e w' => e = .returned (.bool (!regB r n)) ∧ Below w.heap.size w w' := by
 have HC := lH_ hC
 clear hC
 go_enter Try.func44, Try.ntmps44
 go_upto_region 1 with fail
 obtain ⟨w1, g, hw0_, hg0_, Xg_, Yg_, _⟩ := new_box w #[.slice A r.length c] 46
 rw [hw0_, hg0_]
 have Eg := lH_ (show g = w.heap.size + 0 by omega)
 clear hw0_ hg0_
 have HXw1 := lH_ (Yg_.out)
 have Bg := lH_ (Xg_.out)
 clear Xg_ Yg_
 have c0 := Bg.out.cell 0
 simp only [gA_, gZ_, gS_] at c0
 replace hb := pw_cell_below HXw1.out hb
 go_wp2_with fail
 refine (reg_any r n A c w1 (Kd.C_below HC.out HXw1.out)).mono ?_
 rintro e w2 ⟨rfl, hb2⟩
 have HX2 := lH_ (bthen' HXw1.out hb2)
 clear hb2
 go_wp2_with fail
 go_ret
 exact ⟨rfl, HX2.out⟩
theorem at_leaves {B : Nat} {W : World} {gD : Nat} {c0 c1 c2 c3 c4 c5 : Value} {q : Int} {R : Ending → World → Prop} (hB : Blk W gD #[c0, c1, c2, c3, c4, c5] 51) (Ds : List Nat) (hM : Marks B W Ds) (hg : gD ∉ Ds) (tmps : Array Value) (h6 : tmps.getD 6 undef = .pointer (some ⟨gD, 0, none⟩)) (h7 : tmps.getD 7 undef = .int .i64 q)
  (hR : ∀ w', Below B W w' → (∀ i, i ∉ Ds → w'.heap[i]? = W.heap[i]?) → R (.returned (.tuple #[.agg #[c0, c1, c2, c3, c4, c5], .int .i64 q])) w') :
  LeavesInM Fence.wide 3 Try.prog Try.f14 tmps R (Ds.map mark) .returning W := by
 refine leaves_marks Ds _ hM (fun w' hb' hs => ⟨.tuple #[.agg #[c0, c1, c2, c3, c4, c5], .int .i64 q], ?_, hR w' hb' hs⟩)
 have hB' : Blk w' gD #[c0, c1, c2, c3, c4, c5] 51 := (hs gD hg).trans hB
 have := res_ct (fn := Try.f14) (p := 6) (u := 7) rfl tmps w' gD _ #[c0, c1, c2, c3, c4, c5] _ h6 hB' rfl Try.underlying51 (by kernel_rfl)
 rw [this, h7]
structure Gl.Good (g : Gl) (R : Int) : Prop where
 rl : R ≤ 8
 nc : g.ct.length ≤ 6
 na : g.an.length ≤ 6
 np : g.pts ≤ 40
 ct : ∀ c ∈ g.ct, 3 ≤ c.length ∧ ∀ p ∈ c, -128 ≤ p.a ∧ p.a ≤ 128 ∧ -128 ≤ p.b ∧ p.b ≤ 128
 an : ∀ a ∈ g.an, -128 ≤ a.b ∧ a.b ≤ 128 ∧ -128 ≤ a.c ∧ a.c ≤ 128
 hang : -128 ≤ g.hang.b ∧ g.hang.b ≤ 128 ∧ -128 ≤ g.hang.c ∧ g.hang.c ≤ 128
 adv : 0 ≤ g.adv ∧ g.adv ≤ 128
 dl : ∀ d ∈ g.dl, 0 ≤ d.region ∧ d.region < R ∧ d.moves.length = g.pts
theorem wi_b {m n : Int} (h : wiB m n = true) : -m ≤ n ∧ n ≤ m := by simpa [wiB] using h
theorem wi2_b {m x y : Int} (h : wi2 m x y = true) : -m ≤ x ∧ x ≤ m ∧ -m ≤ y ∧ y ≤ m := by
 simp only [wi2, Bool.and_eq_true] at h
 have := wi_b h.1; have := wi_b h.2; omega
theorem an_good : ∀ (l : List I3) (p : Int), anB p l = true → ∀ a ∈ l, -128 ≤ a.b ∧ a.b ≤ 128 ∧ -128 ≤ a.c ∧ a.c ≤ 128
 | [], _, _, _, h => by cases h
 | a :: l, p, h, b, hb => by
  simp only [anB, Bool.and_eq_true] at h
  rcases List.mem_cons.1 hb with rfl | hb
  ·exact wi2_b h.1.2
  ·exact an_good l _ h.2 b hb
theorem dl_good (n : Nat) (R hc : Int) : ∀ (l : List Dl) (p : Int), dlB n R hc p l = true → ∀ d ∈ l, 0 ≤ d.region ∧ d.region < R ∧ d.moves.length = n
 | [], _, _, _, h => by cases h
 | a :: l, p, h, b, hb => by
  simp only [dlB, dOk, Bool.and_eq_true, decide_eq_true_eq] at h
  rcases List.mem_cons.1 hb with rfl | hb
  ·exact ⟨h.1.1, h.1.2.1, h.1.2.2.2.2.1⟩
  ·exact dl_good n R hc l _ h.2 b hb
theorem chk_good (g : Gl) (R : Int) (h : g.chk R = 0) : g.Good R := by
 unfold Gl.chk at h
 split at h; · cases h
 rename_i h1
 unfold Gl.chk2 at h
 split at h; · cases h
 rename_i h2
 unfold Gl.chk3 at h
 split at h; · cases h
 rename_i h3
 unfold Gl.chk4 at h
 split at h; · cases h
 rename_i h4
 unfold Gl.chk5 at h
 split at h; · cases h
 rename_i h5
 unfold Gl.chk6 at h
 split at h; · cases h
 rename_i h6
 have h3' : ctsB g.ct = true := by simpa using h3
 have h4' : ancB g.an g.hang = true := by simpa using h4
 have h6' : g.dlOk R = true := by simpa using h6
 simp only [ancB, Bool.and_eq_true] at h4'
 refine ⟨by omega, by omega, by omega, by omega, fun c hc => ?_, an_good _ _ h4'.1, ?_, by omega, dl_good _ _ _ _ _ h6'⟩
 ·simp only [ctsB, Bool.not_eq_true', List.any_eq_false] at h3'
  have := h3' c hc
  simp only [ctB, Bool.or_eq_true, not_or, decide_eq_true_eq, List.any_eq_true, not_exists, not_and, Bool.not_eq_true', Bool.not_eq_false] at this
  refine ⟨by omega, fun p hp => ?_⟩
  have h7 := this.2 p hp
  exact wi2_b h7
 ·have h7 := h4'.2
  unfold hangB at h7
  split at h7
  ·have e : g.hang = zI3 := by simpa using h7
   rw [e]; decide
  ·simp only [Bool.and_eq_true] at h7
   exact wi2_b h7.2.2
def plP (dl : List Dl) (sh : List I2) (k : Nat) (p : Pt) : Pt := ⟨sumB (fun d => (d.moves.getD k zI2).a) p.a dl sh, sumB (fun d => (d.moves.getD k zI2).b) p.b dl sh, p.c⟩
def plA (dl : List Dl) (sh : List I2) (k : Nat) (a : I3) : I3 := ⟨a.a, sumB (fun d => (d.moves.getD k zI2).a) a.b dl sh, sumB (fun d => (d.moves.getD k zI2).b) a.c dl sh⟩
def plL (dl : List Dl) (sh : List I2) (l : List (Nat × Pt)) : List Pt := l.map fun x => plP dl sh x.1 x.2
def plC (dl : List Dl) (sh : List I2) (n : Nat) (c : List Pt) : List Pt := plL dl sh (spK n c c.length)
def plCs (dl : List Dl) (sh : List I2) (ct : List (List Pt)) (k : Nat) : List (List Pt) := (List.range k).map fun j => plC dl sh (ptsN (ct.take j)) (ct.getD j [])
theorem plCs_succ (dl : List Dl) (sh : List I2) (ct : List (List Pt)) (k : Nat) : plCs dl sh ct (k + 1) = plCs dl sh ct k ++ [plC dl sh (ptsN (ct.take k)) (ct.getD k [])] := by simp [plCs, List.range_succ]
theorem plL_snoc (dl : List Dl) (sh : List I2) (l : List (Nat × Pt)) (x : Nat × Pt) : plL dl sh (l ++ [x]) = plL dl sh l ++ [plP dl sh x.1 x.2] := by simp [plL]
structure InC (w0 w6 : World) (gO : Nat) (o2 o3 o4 o5 : Value) (Ds : List Nat) (cs : List (List Pt)) (v : Value) (W : World) : Prop where
 box : Blk W gO #[v, .slice none 0 0, o2, o3, o4, o5] 51
 row : Kd.R kCt 71 W w6.heap.size (fun _ => True) v cs
 keep : Sc w6.heap.size gO w6 W
 marks : Marks w0.heap.size W Ds
structure InP (wk : World) (gL gS gF : Nat) (vS vF vl : Value) (ps : List Pt) (W : World) : Prop where
 below : Below wk.heap.size wk W
 lt : wk.heap.size ≤ gL
 box : Blk W gL #[vl] 71
 bS : Blk W gS #[vS] 71
 bF : Blk W gF #[vF] 3
 row : Kd.R kPt 73 W wk.heap.size (fun _ => True) vl ps
theorem InP.turn {wk : World} {gL gS gF : Nat} {vS vF vl : Value} {ps : List Pt} {W W' : World} {N : Nat} (h : InP wk gL gS gF vS vF vl ps W) (hN : wk.heap.size ≤ N) {row : Option Nat} (hg : W.grownBy W' row) (hr : ∀ r, row = some r → N ≤ r ∧ ∃ o : Obj, W.heap[r]? = some o ∧ o.isCells = false) : InP wk gL gS gF vS vF vl ps W' :=
 ⟨ownFrom_below (β := Unit) (Nat.le_refl _) hN () W W' row h.below hg hr, h.lt, Blk_turn h.box hg (fun r e => (hr r e).2), Blk_turn h.bS hg (fun r e => (hr r e).2), Blk_turn h.bF hg (fun r e => (hr r e).2), Kd.R_mono (Kd.R_move (Kd.R_bound h.row) (fun k hk => hg.block k hk.2.2.1 (by
  intro e
  obtain ⟨o, ho, hc⟩ := (hr k e.symm).2
  obtain ⟨_, _, _, q, _, cells, hcell⟩ := hk
  rw [hcell] at ho; cases ho; cases hc))) (fun _ hk => hk.1)⟩
theorem InP.below_ {wk : World} {gL gS gF : Nat} {vS vF vl : Value} {ps : List Pt} {W W' : World} (h : InP wk gL gS gF vS vF vl ps W) (hb : Below W.heap.size W W') : InP wk gL gS gF vS vF vl ps W' :=
 ⟨bthen' h.below hb, h.lt, h.box.below hb, h.bS.below hb, h.bF.below hb, Kd.R_below h.row hb⟩
theorem kPt_apart {w : World} {base b : Nat} {v : Value} {xs : List Pt} (h : Kd.R kPt 73 w base (fun _ => True) v xs) (hb : v.ownBlock ≠ some b) : Kd.R kPt 73 w base (fun k => k ≠ b) v xs := ⟨fun k hk e => hb (by rw [hk, e]), h.2⟩
theorem InP.put {wk : World} {gL gS gF : Nat} {vS vF vl : Value} {ps : List Pt} {W : World} (h : InP wk gL gS gF vS vF vl ps W) {b : Nat} (hb : gL < b ∧ gS < b ∧ gF < b) (ho : vl.ownBlock ≠ some b) (j : Nat) (v : Value) : InP wk gL gS gF vS vF vl ps (W.setCell ⟨b, j, none⟩ v) :=
 ⟨bset h.below (by have := h.lt; omega) j v, h.lt, h.box.far (by omega) j v, h.bS.far (by omega) j v, h.bF.far (by omega) j v, Kd.R_mono (Kd.R_far (p := ⟨b, j, none⟩) (kPt_apart h.row ho) (fun _ hk => hk) v) (fun _ _ => trivial)⟩
/- outline's At: the body of its range over spots. -/
attribute [local go_sem] storeFn Oper.semAt_some
def rangeOf : Code → Option (Code × Code)
 | .rangeFunc _ _ a b => some (a, b)
 | .seq a b => match rangeOf a with
  | some c => some c
  | none => rangeOf b
 | .block _ c => rangeOf c
 | .scope c => rangeOf c
 | .loop c => rangeOf c
 | .cond _ a b => match rangeOf a with
  | some c => some c
  | none => rangeOf b
 | _ => none
noncomputable def atBody : Code := ((Try.f14.body.bind rangeOf).map (·.2)).getD .skip
def PtIn (g : Gl) (x : Nat × Pt) : Prop := x.1 < g.pts ∧ -128 ≤ x.2.a ∧ x.2.a ≤ 128 ∧ -128 ≤ x.2.b ∧ x.2.b ≤ 128
set_option maxRecDepth 1000000 in
theorem at_body (g : Gl) (sh : List I2) (va : Option Addr) (cv : Nat) (q3 : Option Addr) (m3 : Nat) (W W3 : World) (gP gL gS gF Bx lp N i : Nat) (x0 x1 : Int) (x2 : Bool) (vS vF vl : Value) (pre : List {x : Nat × Pt // PtIn g x}) (px : PtIn g (i, ⟨x0, x1, x2⟩))
  (hGd : Kd.C kDl W q3 g.dl.length g.dl) (hSh : Kd.C kI2 W va g.dl.length sh) (hsl : sh.length = g.dl.length) (hdl : ∀ d ∈ g.dl, d.moves.length = g.pts) (hnd : g.dl.length ≤ 1000000) (hPW : Blk W gP #[.func (.func 47) #[.agg #[.slice q3 g.dl.length m3, .slice va g.dl.length cv]] #[]] 104) (h3 : InP W gL gS gF vS vF vl (plL g.dl sh (pre.map (·.1))) W3) (hBx : Blk W3 Bx #[.int .i64 x0, .int .i64 x1, .bool x2] 73) (hn2 : vl.ownBlock ≠ some Bx ∧ gL < Bx ∧ gS < Bx ∧ gF < Bx) (hpl : pre.length ≤ 1000) (hSL : gS ≠ gL ∧ gF ≠ gL) (c0 c1 c2 c3 c4 c5 c6 c7 c8 c9 c11 c12 c13 c14 c18 c19 c20 c21 c22 c23 c24 c25 c26 c27 c28 c29 c30 c31 c32 c33 c34 c35 c36 c37 c38 c39 c40 c41 c42 c43 c44 c45 c46 c47 c48 c49 c50 c51 c52 c53 c54 c55 c56 c57 c58 c59 c60 c61 c62 c63 c64 c65 c66 c67 c68 c69 c70 c71 c72 c73 c74 c75 c76 c77 c78 c79 c80 c81 c82 c83 c84 c85 c86 c87 c88 c89 c90 c91 c92 c93 c94 c95 c96 c97 c98 c99 c100 c101 c102 c103 c104 c105 c106 c107 c108 c109 c110 c111 c112 c113 c114 c115 c116 c117 c118 c119 c120 c121 c122 c123 c124 c125 c126 c127 c128 c129 c130 c131 c132 c133 c134 c135 c136 c137 c138 c139 c140 c141 c142 c143 c144 c145 : Value) :
  atBody.wpIn (Fence.wide.inRound lp) 1 Try.prog (ownPostG N (KpG W.heap.size (fun b => b = gS ∨ b = gF)) (fun pre W' => ∃ vl, InP W gL gS gF vS vF vl (plL g.dl sh (pre.map (·.1))) W') (fun _ _ _ => False) (pre ++ [⟨(i, ⟨x0, x1, x2⟩), px⟩]) W3) { tmps := (c0 :: c1 :: c2 :: c3 :: c4 :: c5 :: c6 :: c7 :: c8 :: c9 :: (.pointer (some ⟨gP, 0, none⟩)) :: c11 :: c12 :: c13 :: c14 :: (.pointer (some ⟨gL, 0, none⟩)) :: (.int .i64 (i : Int)) :: (.pointer (some ⟨Bx, 0, none⟩)) :: c18 :: c19 :: c20 :: c21 :: c22 :: c23 :: c24 :: c25 :: c26 :: c27 :: c28 :: c29 :: c30 :: c31 :: c32 :: c33 :: c34 :: c35 :: c36 :: c37 :: c38 :: c39 :: c40 :: c41 :: c42 :: c43 :: c44 :: c45 :: c46 :: c47 :: c48 :: c49 :: c50 :: c51 :: c52 :: c53 :: c54 :: c55 :: c56 :: c57 :: c58 :: c59 :: c60 :: c61 :: c62 :: c63 :: c64 :: c65 :: c66 :: c67 :: c68 :: c69 :: c70 :: c71 :: c72 :: c73 :: c74 :: c75 :: c76 :: c77 :: c78 :: c79 :: c80 :: c81 :: c82 :: c83 :: c84 :: c85 :: c86 :: c87 :: c88 :: c89 :: c90 :: c91 :: c92 :: c93 :: c94 :: c95 :: c96 :: c97 :: c98 :: c99 :: c100 :: c101 :: c102 :: c103 :: c104 :: c105 :: c106 :: c107 :: c108 :: c109 :: c110 :: c111 :: c112 :: c113 :: c114 :: c115 :: c116 :: c117 :: c118 :: c119 :: c120 :: c121 :: c122 :: c123 :: c124 :: c125 :: c126 :: c127 :: c128 :: c129 :: c130 :: c131 :: c132 :: c133 :: c134 :: c135 :: c136 :: c137 :: c138 :: c139 :: c140 :: c141 :: c142 :: c143 :: c144 :: c145 :: []).toArray, defers := [] } W3 := by
 have PX := lH_ px
 have NSL := lH_ hSL.1
 have NFL := lH_ hSL.2
 clear hSL
 have H3 := lH_ h3
 have HBX := lH_ hBx
 have HN2 := lH_ hn2
 have HGD := lH_ hGd
 have HSH := lH_ hSh
 have HSL := lH_ hsl
 have HDL := lH_ hdl
 have HND := lH_ hnd
 have HLE := lH_ (show (plL g.dl sh (pre.map (·.1))).length ≤ 1000 by unfold plL; rw [List.length_map, List.length_map]; exact hpl)
 have HPR := lH_ (plL_snoc g.dl sh (pre.map (·.1)) (i, ⟨x0, x1, x2⟩))
 have b0 := hBx.cell 0
 have b1 := hBx.cell 1
 have b2 := hBx.cell 2
 have pc := (hPW.below h3.below).cell 0
 simp only [gA_, gZ_, gS_] at b0 b1 b2 pc
 clear h3 hBx hn2 hGd hSh hsl hdl hnd hpl hPW
 conv => arg 4; whnf
 have h4 := (Kd.C_below HGD.out H3.out.below)
 have h5 := (Kd.C_below HSH.out H3.out.below)
 rw [← HSL.out] at h5
 have h6 : ∀ d ∈ g.dl, i < d.moves.length := fun d hd => by rw [HDL.out d hd]; exact PX.out.1
 have h7 := PX.out
 unfold PtIn at h7
 dsimp only at h7
 have HPL := lH_ (place_any i x0 x1 g.dl q3 m3 sh va cv W3 (by omega) (by omega) HND.out HSL.out h4 h5 h6)
 rw [HSL.out] at HPL
 have HPP : Hid (plP g.dl sh i ⟨x0, x1, x2⟩ = ⟨sumB (fun d => (d.moves.getD i zI2).a) x0 g.dl sh, sumB (fun d => (d.moves.getD i zI2).b) x1 g.dl sh, x2⟩) := lH_ rfl
 obtain ⟨sx, hsx⟩ : ∃ s, sumB (fun d => (d.moves.getD i zI2).a) x0 g.dl sh = s := ⟨_, rfl⟩
 obtain ⟨sy, hsy⟩ : ∃ s, sumB (fun d => (d.moves.getD i zI2).b) x1 g.dl sh = s := ⟨_, rfl⟩
 rw [hsx, hsy] at HPL HPP
 clear h4 h5 h6 h7 hsx hsy
 gi_wp2_with fail
 refine ⟨trivial, ?_⟩
 refine (CallsIn.inRound lp (callsIn_wide.2 HPL.out)).mono ?_
 intro e W4 hh
 obtain ⟨rfl, hb⟩ := hh
 have H4 := lH_ (H3.out.below_ hb)
 have BX4 := lH_ (HBX.out.below hb)
 have HB4 := lH_ hb
 clear hb b0 b1 b2 pc
 have b0 := BX4.out.cell 0
 have b1 := BX4.out.cell 1
 have f0 := BX4.out.frozen 0
 have f1 := BX4.out.frozen 1
 simp only [gA_, gZ_, gS_] at b0 b1
 gi_upto_region 20 with fail
 have BX5 : Hid (Blk _ Bx #[.int .i64 sx, .int .i64 sy, .bool x2] 73) := lH_ ((BX4.out.put 0 (.int .i64 sx) rfl).put 1 (.int .i64 sy) rfl)
 have hbn := HN2.out.2
 have H5 := lH_ ((H4.out.put hbn HN2.out.1 0 (.int .i64 sx)).put hbn HN2.out.1 1 (.int .i64 sy))
 have hwb : W.heap.size ≤ Bx := by have := H4.out.lt; omega
 have HK5 := lH_ ((KpG.of (G := fun b => b = gS ∨ b = gF) HB4.out H3.out.below.size).trans ((KpG.set hwb (by omega) 0 (.int .i64 sx)).trans (KpG.set hwb (by omega) 1 (.int .i64 sy))))
 have HO5 := lH_ ((keeps_below HB4.out).trans ((KeepsOthers.setCell W4 ⟨Bx, 0, none⟩ (.int .i64 sx)).trans (KeepsOthers.setCell _ ⟨Bx, 1, none⟩ (.int .i64 sy))))
 clear b0 b1 f0 f1 H4 BX4 HB4 hbn hwb HPL
 generalize World.setCell (World.setCell _ _ _) _ _ = W5 at *
 obtain ⟨A', c', rfl⟩ := Kd.R_slice H5.out.row
 have b0 := BX5.out.cell 0
 have b1 := BX5.out.cell 1
 have b2 := BX5.out.cell 2
 have hx := H5.out.box.cell 0
 have hz := H5.out.box.frozen 0
 simp only [gA_, gZ_, gS_] at b0 b1 b2 hx
 generalize plL g.dl sh (pre.map (·.1)) = ps at *
 gi_wp2_with (gi_at_builtin; go_loud (refine R_append_in kPt (w0 := W) W.heap.size rfl (.tmp 81) (.tmp 83) 71 73 _ 24 rfl Try.underlying71 infoPt rfl (by decide) (by omega) (.slice A' ps.length c') ps ⟨sx, sy, x2⟩ [.int .i64 sx, .int .i64 sy, .bool x2] (fun _ => True) (fun _ => False) rfl rfl (kPt_mkM _ _ _ ⟨sx, sy, x2⟩) (fun _ h => h.elim) (fun _ _ => trivial) H5.out.row H5.out.below H5.out.below.size (by have := HLE.out; omega) ?_); intro v4 w4 hR4 hB4 hg4 hat4; obtain ⟨A4, c4, rfl⟩ := Kd.R_slice hR4; have HR4 := lH_ hR4; have HB4 := lH_ hB4; have HG4 := lH_ hg4; have bx4 : Blk w4 gL #[.slice A' ps.length c'] 71 := (hg4.block gL H5.out.box.lt (Kd.R_ne H5.out.row H5.out.box (by decide))).trans H5.out.box; have hx4 := bx4.cell 0; have hz4 := bx4.frozen 0; simp only [List.getElem?_toArray, List.getElem?_cons_zero] at hx4; have BX4_ := lH_ bx4; clear hR4 hB4 hg4 hat4 bx4 hx b0 b1 b2)
 have h8 := H5.out
 have hgg : W.heap.size ≤ gL := h8.lt
 obtain ⟨inner, hown⟩ := Kd.R_own h8.row
 have hrow : ∀ j, (Value.slice A' ps.length c').ownBlock = some j → ∃ o : Obj, W5.heap[j]? = some o ∧ o.isCells = true := fun j hj => by
  obtain ⟨cells, hc⟩ := own_typed hown j hj
  exact ⟨_, hc, rfl⟩
 have nS : some gS ≠ (Value.slice A' ps.length c').ownBlock := Kd.R_ne h8.row h8.bS (by decide)
 have nF : some gF ≠ (Value.slice A' ps.length c').ownBlock := Kd.R_ne h8.row h8.bF (by decide)
 have S4 : Blk w4 gS #[vS] 71 := (HG4.out.block gS h8.bS.lt nS).trans h8.bS
 have F4 : Blk w4 gF #[vF] 3 := (HG4.out.block gF h8.bF.lt nF).trans h8.bF
 have kB : Below W.heap.size W5 w4 := (Below.refl W.heap.size W5).grown HG4.out h8.below.size (own_base hown)
 refine ⟨(HO5.out.trans ((KeepsOthers.of_grownBy HG4.out (fun j o e ho => by
   obtain ⟨o', ho', hc'⟩ := hrow j e
   rw [ho] at ho'; cases ho'; exact hc')).trans (KeepsOthers.setCell _ _ _))).from _, HK5.out.trans ⟨kB.setCell hgg _, ?_⟩, .slice A4 (ps.length + 1) c4, ?_⟩
 ·rintro b (rfl | rfl) o ho e
  ·rw [Below.heap_setCell w4 ⟨gL, 0, none⟩ _ _ NSL.out]
   exact (HG4.out.block _ h8.bS.lt nS).trans e
  ·rw [Below.heap_setCell w4 ⟨gL, 0, none⟩ _ _ NFL.out]
   exact (HG4.out.block _ h8.bF.lt nF).trans e
 ·have h9 : Kd.R kPt 73 w4 W.heap.size (fun _ => True) (.slice A4 (ps.length + 1) c4) (ps ++ [⟨sx, sy, x2⟩]) := by
   have h := HR4.out
   rw [List.length_append, List.length_singleton] at h
   exact h
  rw [List.map_append]
  show InP W gL gS gF vS vF _ (plL g.dl sh (pre.map (·.1) ++ [(i, ⟨x0, x1, x2⟩)])) _
  rw [HPR.out, HPP.out]
  exact ⟨bset HB4.out hgg 0 _, hgg, BX4_.out.put 0 _ rfl, S4.far NSL.out 0 _, F4.far NFL.out 0 _, Kd.R_set h9 BX4_.out (by decide) 0 _⟩
end Go.Proofs.Ythpccdhmppbkfaa
/- outline's At: its loop over contours. -/
namespace Go.Proofs.Ythpccdhmppbkfaa
open Go.RowKit Go.Shelf Go.Proofs.YthpccdhmppbkfaaW.PrintWords Go.Proofs.YthpccdhmppbkfaaW.PrintLast Go.Proofs.YthpccdhmppbkfaaW.PrintMore
attribute [local go_sem] storeFn Oper.semAt_some
theorem wr64 (a b : Nat) (h : a + b ≤ 1000) : IntKind.i64.wrap ((a : Int) + (b : Int)) = (a : Int) + (b : Int) := IntWalk.i64_in _ (by omega)
theorem lt_mu {T U : Array Value} {L k : Nat} {x y : Int} (ha : T[60]? = some (.int .i64 x)) (hb : U[60]? = some (.int .i64 y)) (hx : x = ((k + 1 : Nat) : Int)) (hk : k < L) (hy : y = (k : Int) := by rfl) : L - (intOf (T.getD 60 undef)).toNat < L - (intOf (U.getD 60 undef)).toNat := by
 subst hx hy
 rw [Array.getD_eq_getD_getElem?, Array.getD_eq_getD_getElem?, ha, hb]
 simp [intOf]
 omega
theorem eq_of2 {α : Type} (f : Int → Int → α) {a a' b b' : Int} (ha : a' = a) (hb : b = b') : f a b = f a' b' := by rw [ha, hb]
theorem wk64 (k : Nat) (h : k ≤ 1000000) : wrap64 ((k : Int) + 1) = ((k + 1 : Nat) : Int) := by unfold wrap64; omega
def loopsOf : Code → List Code
 | .loop c => [c]
 | .seq a b => loopsOf a ++ loopsOf b
 | .block _ c => loopsOf c
 | .scope c => loopsOf c
 | .cond _ a b => loopsOf a ++ loopsOf b
 | _ => []
noncomputable def atLoop1 : Code := ((Try.f14.body.map loopsOf).getD []).getD 0 .skip
set_option maxRecDepth 1000000 in
theorem at_loop1 {R : Int} (g : Gl) (sh : List I2) (va : Option Addr) (cv : Nat) (q1 : Option Addr) (m1 : Nat) (q3 : Option Addr) (m3 : Nat) (w w6 : World) (gP gO : Nat) (o2 o3 o4 o5 : Value)
  (hGc : Kd.C kCt w q1 g.ct.length g.ct) (hGd : Kd.C kDl w q3 g.dl.length g.dl) (hSh : ∀ W, Sc w6.heap.size gO w6 W → Kd.C kI2 W va g.dl.length sh) (hsl : sh.length = g.dl.length) (hok : g.Good R) (hnd : g.dl.length ≤ 1000000) (hX6 : Below w.heap.size w w6) (hO : w.heap.size ≤ gO) (hP6 : Blk w6 gP #[.func (.func 47) #[.agg #[.slice q3 g.dl.length m3, .slice va g.dl.length cv]] #[]] 104) (hPO : gP ≠ gO) (v0 : Value) (h0 : InC w w6 gO o2 o3 o4 o5 [] [] v0 w6) (Q0 : Exit → Act → World → Prop) (z0 z1 z2 z3 z4 z5 z6 z7 z8 z9 z13 z18 z19 z20 z21 z22 z23 z24 z25 z26 z27 z28 z29 z30 z31 z32 z33 z34 z35 z36 z37 z38 z39 z40 z41 z42 z43 z44 z45 z46 z47 z48 z49 z50 z51 z52 z53 z54 z55 z56 z57 z96 z97 z98 z99 z100 z101 z102 z103 z104 z105 z106 z107 z108 z109 z110 z111 z112 z113 z114 z115 z116 z117 z118 z119 z120 z121 z122 z123 z124 z125 z126 z127 z128 z129 z130 z131 z132 z133 z134 z135 z136 z137 z138 z139 z140 z141 z142 z143 z144 z145 u14 u15 u16 u17 u61 u62 u63 u64 u65 u66 u67 u68 u69 u70 u71 u72 u73 u74 u75 u76 u77 u78 u79 u80 u81 u82 u83 u84 u85 u86 u87 u88 u89 u90 u91 u92 u93 u94 u95 : Value)
  (hex : ∀ (Ds : List Nat) (v : Value) (W : World) (u14 u15 u16 u17 u61 u62 u63 u64 u65 u66 u67 u68 u69 u70 u71 u72 u73 u74 u75 u76 u77 u78 u79 u80 u81 u82 u83 u84 u85 u86 u87 u88 u89 u90 u91 u92 u93 u94 u95 : Value), InC w w6 gO o2 o3 o4 o5 Ds (plCs g.dl sh g.ct g.ct.length) v W → Q0 (.exit 0) { tmps := (z0 :: z1 :: z2 :: z3 :: z4 :: z5 :: z6 :: z7 :: z8 :: z9 :: (.pointer (some ⟨gP, 0, none⟩)) :: (.pointer (some ⟨gO, 0, none⟩)) :: (.int .i64 (ptsN g.ct : Int)) :: z13 :: u14 :: u15 :: u16 :: u17 :: z18 :: z19 :: z20 :: z21 :: z22 :: z23 :: z24 :: z25 :: z26 :: z27 :: z28 :: z29 :: z30 :: z31 :: z32 :: z33 :: z34 :: z35 :: z36 :: z37 :: z38 :: z39 :: z40 :: z41 :: z42 :: z43 :: z44 :: z45 :: z46 :: z47 :: z48 :: z49 :: z50 :: z51 :: z52 :: z53 :: z54 :: z55 :: z56 :: z57 :: (.slice q1 g.ct.length m1) :: (.int .i64 (g.ct.length : Int)) :: (.int .i64 (g.ct.length : Int)) :: u61 :: u62 :: u63 :: u64 :: u65 :: u66 :: u67 :: u68 :: u69 :: u70 :: u71 :: u72 :: u73 :: u74 :: u75 :: u76 :: u77 :: u78 :: u79 :: u80 :: u81 :: u82 :: u83 :: u84 :: u85 :: u86 :: u87 :: u88 :: u89 :: u90 :: u91 :: u92 :: u93 :: u94 :: u95 :: z96 :: z97 :: z98 :: z99 :: z100 :: z101 :: z102 :: z103 :: z104 :: z105 :: z106 :: z107 :: z108 :: z109 :: z110 :: z111 :: z112 :: z113 :: z114 :: z115 :: z116 :: z117 :: z118 :: z119 :: z120 :: z121 :: z122 :: z123 :: z124 :: z125 :: z126 :: z127 :: z128 :: z129 :: z130 :: z131 :: z132 :: z133 :: z134 :: z135 :: z136 :: z137 :: z138 :: z139 :: z140 :: z141 :: z142 :: z143 :: z144 :: z145 :: []).toArray, defers := Ds.map mark } W) :
  Code.wp Try.prog (Code.loop atLoop1) Q0 { tmps := (z0 :: z1 :: z2 :: z3 :: z4 :: z5 :: z6 :: z7 :: z8 :: z9 :: (.pointer (some ⟨gP, 0, none⟩)) :: (.pointer (some ⟨gO, 0, none⟩)) :: (.int .i64 0) :: z13 :: u14 :: u15 :: u16 :: u17 :: z18 :: z19 :: z20 :: z21 :: z22 :: z23 :: z24 :: z25 :: z26 :: z27 :: z28 :: z29 :: z30 :: z31 :: z32 :: z33 :: z34 :: z35 :: z36 :: z37 :: z38 :: z39 :: z40 :: z41 :: z42 :: z43 :: z44 :: z45 :: z46 :: z47 :: z48 :: z49 :: z50 :: z51 :: z52 :: z53 :: z54 :: z55 :: z56 :: z57 :: (.slice q1 g.ct.length m1) :: (.int .i64 (g.ct.length : Int)) :: (.int .i64 0) :: u61 :: u62 :: u63 :: u64 :: u65 :: u66 :: u67 :: u68 :: u69 :: u70 :: u71 :: u72 :: u73 :: u74 :: u75 :: u76 :: u77 :: u78 :: u79 :: u80 :: u81 :: u82 :: u83 :: u84 :: u85 :: u86 :: u87 :: u88 :: u89 :: u90 :: u91 :: u92 :: u93 :: u94 :: u95 :: z96 :: z97 :: z98 :: z99 :: z100 :: z101 :: z102 :: z103 :: z104 :: z105 :: z106 :: z107 :: z108 :: z109 :: z110 :: z111 :: z112 :: z113 :: z114 :: z115 :: z116 :: z117 :: z118 :: z119 :: z120 :: z121 :: z122 :: z123 :: z124 :: z125 :: z126 :: z127 :: z128 :: z129 :: z130 :: z131 :: z132 :: z133 :: z134 :: z135 :: z136 :: z137 :: z138 :: z139 :: z140 :: z141 :: z142 :: z143 :: z144 :: z145 :: []).toArray, defers := [] } w6 := by
 have HGC := lH_ hGc
 have HGD := lH_ hGd
 have HSH := lH_ hSh
 have HSL := lH_ hsl
 have HOK := lH_ hok
 have HND := lH_ hnd
 have HX6 := lH_ hX6
 have HO := lH_ hO
 have HP6 := lH_ hP6
 have HPO := lH_ hPO
 have HEX := lH_ hex
 have HGO := lH_ h0.box.lt
 clear hGc hGd hSh hsl hok hnd hX6 hO hP6 hPO hex
 refine loop_acts (fun a W => ∃ (k : Nat) (u14 u15 u16 u17 u61 u62 u63 u64 u65 u66 u67 u68 u69 u70 u71 u72 u73 u74 u75 u76 u77 u78 u79 u80 u81 u82 u83 u84 u85 u86 u87 u88 u89 u90 u91 u92 u93 u94 u95 : Value) (Ds : List Nat) (v : Value), k ≤ g.ct.length ∧ a = { tmps := (z0 :: z1 :: z2 :: z3 :: z4 :: z5 :: z6 :: z7 :: z8 :: z9 :: (.pointer (some ⟨gP, 0, none⟩)) :: (.pointer (some ⟨gO, 0, none⟩)) :: (.int .i64 (ptsN (g.ct.take k) : Int)) :: z13 :: u14 :: u15 :: u16 :: u17 :: z18 :: z19 :: z20 :: z21 :: z22 :: z23 :: z24 :: z25 :: z26 :: z27 :: z28 :: z29 :: z30 :: z31 :: z32 :: z33 :: z34 :: z35 :: z36 :: z37 :: z38 :: z39 :: z40 :: z41 :: z42 :: z43 :: z44 :: z45 :: z46 :: z47 :: z48 :: z49 :: z50 :: z51 :: z52 :: z53 :: z54 :: z55 :: z56 :: z57 :: (.slice q1 g.ct.length m1) :: (.int .i64 (g.ct.length : Int)) :: (.int .i64 (k : Int)) :: u61 :: u62 :: u63 :: u64 :: u65 :: u66 :: u67 :: u68 :: u69 :: u70 :: u71 :: u72 :: u73 :: u74 :: u75 :: u76 :: u77 :: u78 :: u79 :: u80 :: u81 :: u82 :: u83 :: u84 :: u85 :: u86 :: u87 :: u88 :: u89 :: u90 :: u91 :: u92 :: u93 :: u94 :: u95 :: z96 :: z97 :: z98 :: z99 :: z100 :: z101 :: z102 :: z103 :: z104 :: z105 :: z106 :: z107 :: z108 :: z109 :: z110 :: z111 :: z112 :: z113 :: z114 :: z115 :: z116 :: z117 :: z118 :: z119 :: z120 :: z121 :: z122 :: z123 :: z124 :: z125 :: z126 :: z127 :: z128 :: z129 :: z130 :: z131 :: z132 :: z133 :: z134 :: z135 :: z136 :: z137 :: z138 :: z139 :: z140 :: z141 :: z142 :: z143 :: z144 :: z145 :: []).toArray, defers := Ds.map mark } ∧ Hid (InC w w6 gO o2 o3 o4 o5 Ds (plCs g.dl sh g.ct k) v W)) (fun a _ => g.ct.length - (intOf (a.tmps.getD 60 undef)).toNat) ?_ ?_
 ·exact ⟨0, u14, u15, u16, u17, u61, u62, u63, u64, u65, u66, u67, u68, u69, u70, u71, u72, u73, u74, u75, u76, u77, u78, u79, u80, u81, u82, u83, u84, u85, u86, u87, u88, u89, u90, u91, u92, u93, u94, u95, [], v0, Nat.zero_le _, rfl, lH_ h0⟩
 rintro Kn a W ⟨k, u14, u15, u16, u17, u61, u62, u63, u64, u65, u66, u67, u68, u69, u70, u71, u72, u73, u74, u75, u76, u77, u78, u79, u80, u81, u82, u83, u84, u85, u86, u87, u88, u89, u90, u91, u92, u93, u94, u95, Ds, v, hk, rfl, HI⟩ HK
 have HWW := lH_ (HX6.out.trans (HI.out.keep.below.mono HO.out))
 by_cases hlt : k < g.ct.length
 case neg =>
  obtain rfl : k = g.ct.length := by omega
  clear HK
  have HE : g.ct.take g.ct.length = g.ct := List.take_length
  rw [HE]
  conv => arg 2; whnf
  go_wp2_with fail
  exact HEX.out _ _ _ _ _ _ _ _ _ _ _ _ _ _ _ _ _ _ _ _ _ _ _ _ _ _ _ _ _ _ _ _ _ _ _ _ _ _ _ _ _ _ HI.out
 have HKK := lH_ HK
 clear HK
 conv => arg 2; whnf
 obtain ⟨ad, c0_, had, hK, p0⟩ := el1 (d := kCt) rfl HGC.out [] k hlt
 obtain ⟨Ai, ci, hcs, hci, hM⟩ := kSl_open hK
 simp only [List.cons.injEq, and_true] at hcs
 subst hcs
 subst had
 replace p0 := pw_cell_below HWW.out p0
 have HTK := lH_ (plCs_succ g.dl sh g.ct k)
 have HPT := lH_ (ptsN_take g.ct k hlt)
 have HPL := lH_ (ptsN_le g.ct (k + 1))
 have HCT := lH_ (HOK.out.ct _ (getD_at hlt []))
 have HKL := lH_ hlt
 generalize g.ct.getD k [] = ct at *
 obtain ⟨n, hn⟩ : ∃ n, ptsN (g.ct.take k) = n := ⟨_, rfl⟩
 rw [hn] at HTK HPT ⊢
 have HNN := lH_ (show n + ct.length < g.pts by have := HPT.out; have := HPL.out; unfold Gl.pts; omega)
 have HNP := lH_ HOK.out.np
 have HN := lH_ hn
 have d1 : decide (k < g.ct.length) = true := decide_eq_true hlt
 have b0 : (0 : Int) ≤ (k : Int) := by omega
 have b1 : (k : Int) < (g.ct.length : Int) := by omega
 have HMC := lH_ hM
 clear hlt hn hM hK
 go_upto_region 16 with fail
 obtain ⟨Wa, gL, hw0_, hg0_, XgL_, YgL_, _⟩ := new_box W #[.slice none 0 0] 71
 rw [hw0_, hg0_]
 have EgL := lH_ (show gL = W.heap.size + 0 by omega)
 clear hw0_ hg0_
 have HXWa := lH_ (YgL_.out)
 have BgL := lH_ (XgL_.out)
 clear XgL_ YgL_
 go_wp2_with fail
 refine (spots_any Ai ct.length ci n Wa).mono ?_
 rintro e W2_ ⟨rfl, rfl⟩
 obtain ⟨Wb, gS, hw0_, hg0_, XgS_, YgS_, _⟩ := new_box Wa #[.slice Ai ct.length ci] 71
 obtain ⟨Wc, gF, hw1_, hg1_, XgF_, YgF_, _⟩ := new_box Wb #[.int .i64 n] 3
 have s1_ : Wa.heap.size + 1 = gF := by rw [← hg1_, ← hw0_]; simp
 rw [hw0_, hw1_, s1_, hg0_]
 have EgS := lH_ (show gS = Wa.heap.size + 0 by omega)
 have EgF := lH_ (show gF = Wa.heap.size + 1 by omega)
 clear hw0_ hg0_ hw1_ hg1_ s1_
 have HXWc := lH_ (bthen' (YgS_.out) YgF_.out)
 have BgS := lH_ ((XgS_.out).below YgF_.out)
 have BgF := lH_ (XgF_.out)
 clear XgS_ YgS_ XgF_ YgF_
 have HXC := lH_ (bthen' HXWa.out HXWc.out)
 have BgL3 := lH_ (BgL.out.below HXWc.out)
 clear p0
 have LBO := lH_ (show n + ct.length ≤ 40 by have := HNN.out; have := HNP.out; omega)
 have PWk := lH_ (HI.out.keep.blk HP6.out HP6.out.lt HPO.out)
 have NLS := lH_ (show gS ≠ gL ∧ gF ≠ gL by have := EgS.out; have := EgF.out; have := BgL.out.lt; omega)
 go_wp2_with fail
 refine wpIn_wide.1 (wpIn_rangeFunc_ownH (n := 3) (F := Fence.wide) rfl (by omega) (gf := 82) (lb := #[.pointer (some ⟨gS, 0, none⟩), .pointer (some ⟨gF, 0, none⟩)]) rfl trivial (enters_of Try.func82 (by kernel_rfl) rfl)
  (spots_stops (PtIn g) 2 gS gF W.heap.size (fun b => b = gS ∨ b = gF) (by omega) ct n Ai ci (by have := LBO.out; omega) (by have := LBO.out; omega) Wc HXC.out.size (.inl rfl) (.inr rfl) (fun j hj => ⟨by have := HNN.out; dsimp only; omega, HCT.out.2 _ (getD_at hj zPt)⟩) (BgS.out.cell 0) (BgF.out.cell 0) (fun W' hK => Kd.C_below HMC.out (HWW.out.trans ((HXC.out.trans hK.below).mono HWW.out.size)))) KpG.trans (KpG.putObj HXC.out.size) (Below.refl _ _) (fun _ => rfl)
  (fun pre W' => ∃ vl, InP W gL gS gF (.slice Ai ct.length ci) (.int .i64 n) vl (plL g.dl sh (pre.map (·.1))) W')
  (fun _ _ _ => False) ?hI (fun c s A B row h _ _ => h) ⟨_, HXC.out, by have := EgL.out; omega, BgL3.out, BgS.out, BgF.out, Kd.R_nil _ _ _ _ _⟩
  (fun x a' W' => ∃ Bx vl, Blk W' Bx #[.int .i64 x.1.2.a, .int .i64 x.1.2.b, .bool x.1.2.c] 73 ∧ Blk W' gL #[vl] 71 ∧ (vl.ownBlock ≠ some Bx ∧ gL < Bx ∧ gS < Bx ∧ gF < Bx) ∧ a' = { tmps := (z0 :: z1 :: z2 :: z3 :: z4 :: z5 :: z6 :: z7 :: z8 :: z9 :: (.pointer (some ⟨gP, 0, none⟩)) :: (.pointer (some ⟨gO, 0, none⟩)) :: (.int .i64 (n : Int)) :: z13 :: (.slice Ai ct.length ci) :: (.pointer (some ⟨gL, 0, none⟩)) :: (.int .i64 (x.1.1 : Int)) :: (.pointer (some ⟨Bx, 0, none⟩)) :: z18 :: z19 :: z20 :: z21 :: z22 :: z23 :: z24 :: z25 :: z26 :: z27 :: z28 :: z29 :: z30 :: z31 :: z32 :: z33 :: z34 :: z35 :: z36 :: z37 :: z38 :: z39 :: z40 :: z41 :: z42 :: z43 :: z44 :: z45 :: z46 :: z47 :: z48 :: z49 :: z50 :: z51 :: z52 :: z53 :: z54 :: z55 :: z56 :: z57 :: (.slice (some ad) g.ct.length m1) :: (.int .i64 (g.ct.length : Int)) :: (.int .i64 (k : Int)) :: (.bool true) :: (.pointer (some (ad.add k))) :: (.slice Ai ct.length ci) :: (.slice Ai ct.length ci) :: (.int .i64 (n : Int)) :: (.func (.func 82) #[] #[.pointer (some ⟨gS, 0, none⟩), .pointer (some ⟨gF, 0, none⟩)]) :: (.int .i64 (x.1.1 : Int)) :: (.agg #[.int .i64 x.1.2.a, .int .i64 x.1.2.b, .bool x.1.2.c]) :: u69 :: u70 :: u71 :: u72 :: u73 :: u74 :: u75 :: u76 :: u77 :: u78 :: u79 :: u80 :: u81 :: u82 :: u83 :: u84 :: u85 :: u86 :: u87 :: u88 :: u89 :: u90 :: u91 :: u92 :: u93 :: u94 :: u95 :: z96 :: z97 :: z98 :: z99 :: z100 :: z101 :: z102 :: z103 :: z104 :: z105 :: z106 :: z107 :: z108 :: z109 :: z110 :: z111 :: z112 :: z113 :: z114 :: z115 :: z116 :: z117 :: z118 :: z119 :: z120 :: z121 :: z122 :: z123 :: z124 :: z125 :: z126 :: z127 :: z128 :: z129 :: z130 :: z131 :: z132 :: z133 :: z134 :: z135 :: z136 :: z137 :: z138 :: z139 :: z140 :: z141 :: z142 :: z143 :: z144 :: z145 :: []).toArray, defers := [] }) ?hAx ?assign ?body ?done ?stop)
 case hI =>
  rintro pre X Y row ⟨vl, h⟩ hg hr
  exact ⟨vl, h.turn HXC.out.size hg hr⟩
 case hAx =>
  rintro x a' s X Y row ⟨Bx, vl, hB, hL, hn, e⟩ hg hr
  exact ⟨Bx, vl, Blk_turn hB hg (fun r e => (hr r e).2), Blk_turn hL hg (fun r e => (hr r e).2), hn, e⟩
 case assign =>
  rintro lp pre x W3 K ⟨vl, h3⟩ hK
  obtain ⟨⟨i, ⟨x0, x1, x2⟩⟩, px⟩ := x
  have HK3 := lH_ hK
  clear hK
  unfold spv
  dsimp only
  gi_wp2
  have hnb : vl.ownBlock ≠ some W3.heap.size := fun e => by
   obtain ⟨inner, ho⟩ := Kd.R_own h3.row
   have := own_lt ho _ e
   omega
  refine HK3.out _ _ ((KeepsOthers.alloc _ _).from _) (KpG.of (balloc (Below.refl _ _) _) h3.below.size) ⟨vl, h3.below_ (balloc (Below.refl _ _) _)⟩ ⟨W3.heap.size, vl, Blk.new W3 _ _ rfl, h3.box.alloc _, ⟨hnb, h3.box.lt, h3.bS.lt, h3.bF.lt⟩, rfl⟩
 case body =>
  rintro lp pre x a' W3 hlp _ ⟨vl, h3⟩ ⟨Bx, vl2, hBx, hL2, hn2, rfl⟩ hlen
  obtain ⟨⟨i, ⟨x0, x1, x2⟩⟩, px⟩ := x
  obtain rfl : vl2 = vl := by have := hL2.symm.trans h3.box; simpa using this
  exact at_body g sh va cv q3 m3 W W3 gP gL gS gF Bx lp _ i x0 x1 x2 _ _ _ pre px (Kd.C_below HGD.out HWW.out) (HSH.out W HI.out.keep) HSL.out (fun d hd => (HOK.out.dl d hd).2.2) HND.out PWk.out h3 hBx hn2 (by have := LBO.out; omega) NLS.out _ _ _ _ _ _ _ _ _ _ _ _ _ _ _ _ _ _ _ _ _ _ _ _ _ _ _ _ _ _ _ _ _ _ _ _ _ _ _ _ _ _ _ _ _ _ _ _ _ _ _ _ _ _ _ _ _ _ _ _ _ _ _ _ _ _ _ _ _ _ _ _ _ _ _ _ _ _ _ _ _ _ _ _ _ _ _ _ _ _ _ _ _ _ _ _ _ _ _ _ _ _ _ _ _ _ _ _ _ _ _ _ _ _ _ _ _ _ _ _ _ _ _ _ _ _ _ _ _ _ _ _ _ _ _ _ _ _ _ _ _ _
 case done =>
  rintro D ys W3 hD hys ⟨vl, h3⟩ hK
  have hPS : plL g.dl sh (ys.map (·.1)) = plC g.dl sh n ct := by rw [hys]; rfl
  rw [hPS] at h3
  have HPSL := lH_ (show (plC g.dl sh n ct).length = ct.length by unfold plC plL; rw [List.length_map, spK_len])
  generalize plC g.dl sh n ct = PS at *
  generalize hCS : plCs g.dl sh g.ct k = cs at *
  have HCL := lH_ (show cs.length = k by rw [← hCS]; simp [plCs])
  obtain ⟨A1, c1, rfl⟩ := Kd.R_slice h3.row
  obtain ⟨Av, cw, rfl⟩ := Kd.R_slice HI.out.row
  have HV3 := lH_ (Kd.R_below HI.out.row h3.below)
  have BO3 := lH_ (HI.out.box.below h3.below)
  have HZ3 := lH_ (show w6.heap.size ≤ W3.heap.size from Nat.le_trans HI.out.keep.size h3.below.size)
  have HP3 : Hid (kCt.M W3 w6.heap.size (fun k => True ∧ W.heap.size ≤ k ∧ k < W3.heap.size ∧ ∃ q, q ∈ 73 :: kPt.E ∧ ∃ cells, W3.heap[k]? = some (.cells cells q (0, 0))) PS [.slice A1 PS.length c1]) := lH_ ⟨_, rfl, Kd.R_lower (Kd.R_bound h3.row) HI.out.keep.size⟩
  have HOKP := lH_ (fun j (h : True ∧ W.heap.size ≤ j ∧ j < W3.heap.size ∧ ∃ q, q ∈ 73 :: kPt.E ∧ ∃ cells, W3.heap[j]? = some (.cells cells q (0, 0))) => (⟨trivial, fun e => by have h1 := (Kd.R_bound HI.out.row).1 j e.symm; have := h.2.1; have := h1.2.2.1; omega⟩ : True ∧ some j ≠ (Value.slice Av cs.length cw).ownBlock))
  have HM3 := lH_ ((HI.out.marks.below h3.below).cons (show w.heap.size ≤ D by have := HXC.out.size; have := HWW.out.size; omega) hK (fun hm => by have := HI.out.marks.lt hm; have := HXC.out.size; omega))
  have HKP3 := lH_ (HI.out.keep.step HI.out.keep.size (by have := HGO.out; have := HI.out.keep.size; omega) h3.below)
  have HKC := lH_ (show cs.length ≤ 6 by have := HCL.out; have := HKL.out; have := HOK.out.nc; omega)
  have HK6 := lH_ (show k ≤ 1000000 by have := HKL.out; have := HOK.out.nc; omega)
  have hx := BO3.out.cell 0
  have hl := h3.box.cell 0
  have hwr := wr64 n ct.length (by have := LBO.out; omega)
  simp only [gA_, gZ_, gS_] at hx hl
  clear h3 hys hPS hK
  go_wp2_with (at_builtin; go_loud (refine Kd.R_append kCt (W := W3) (w0 := W3) w6.heap.size rfl (.tmp 90) (.tmp 92) 22 71 _ 24 rfl (by kernel_rfl) infoCt rfl (by decide) (by omega) (.slice Av cs.length cw) cs PS [.slice A1 PS.length c1] (fun _ => True) _ rfl rfl HP3.out HOKP.out (fun _ _ => trivial) HV3.out (Below.refl _ _) HZ3.out (by have := HKC.out; omega) ?_); intro v4 w4 hR4 hB4 hG4 hat4; obtain ⟨A4, c4, rfl⟩ := Kd.R_slice hR4; have HR4 := lH_ hR4; have HB4 := lH_ hB4; have HG4 := lH_ hG4; have bo4 := (hG4.block gO BO3.out.lt (Kd.R_ne HV3.out BO3.out (by decide))).trans BO3.out; have BO4 : Hid (Blk w4 gO _ _) := lH_ bo4; have hx4 := BO4.out.cell 0; have hz4 := BO4.out.frozen 0; simp only [gA_, gZ_, gS_] at hx4; clear hR4 hB4 hG4 hat4 bo4 hx hl)
  have HR5 : Kd.R kCt 71 w4 w6.heap.size (fun _ => True) (.slice A4 (cs.length + 1) c4) (cs ++ [PS]) := by have h := HR4.out; rw [List.length_append, List.length_singleton] at h; exact h
  have HM4 := HM3.out.kept (fun E hE hl => HG4.out.block E hl (fun e => by obtain ⟨inner, ho⟩ := Kd.R_own HV3.out; obtain ⟨cells, hc⟩ := own_typed ho E e.symm; rw [(HM3.out.2 E hE).2] at hc; cases hc))
  refine HKK.out _ _ ⟨k + 1, _, _, _, _, _, _, _, _, _, _, _, _, _, _, _, _, _, _, _, _, _, _, _, _, _, _, _, _, _, _, _, _, _, _, _, _, _, _, _, D :: Ds, .slice A4 (cs.length + 1) c4, HKL.out, eq_of2 (fun n_ k_ => ({ tmps := (z0 :: z1 :: z2 :: z3 :: z4 :: z5 :: z6 :: z7 :: z8 :: z9 :: (.pointer (some ⟨gP, 0, none⟩)) :: (.pointer (some ⟨gO, 0, none⟩)) :: (.int .i64 n_) :: z13 :: _ :: _ :: _ :: _ :: z18 :: z19 :: z20 :: z21 :: z22 :: z23 :: z24 :: z25 :: z26 :: z27 :: z28 :: z29 :: z30 :: z31 :: z32 :: z33 :: z34 :: z35 :: z36 :: z37 :: z38 :: z39 :: z40 :: z41 :: z42 :: z43 :: z44 :: z45 :: z46 :: z47 :: z48 :: z49 :: z50 :: z51 :: z52 :: z53 :: z54 :: z55 :: z56 :: z57 :: (.slice (some ad) g.ct.length m1) :: (.int .i64 (g.ct.length : Int)) :: (.int .i64 k_) :: _ :: _ :: _ :: _ :: _ :: _ :: _ :: _ :: _ :: _ :: _ :: _ :: _ :: _ :: _ :: _ :: _ :: _ :: _ :: _ :: _ :: _ :: _ :: _ :: _ :: _ :: _ :: _ :: _ :: _ :: _ :: _ :: _ :: _ :: _ :: z96 :: z97 :: z98 :: z99 :: z100 :: z101 :: z102 :: z103 :: z104 :: z105 :: z106 :: z107 :: z108 :: z109 :: z110 :: z111 :: z112 :: z113 :: z114 :: z115 :: z116 :: z117 :: z118 :: z119 :: z120 :: z121 :: z122 :: z123 :: z124 :: z125 :: z126 :: z127 :: z128 :: z129 :: z130 :: z131 :: z132 :: z133 :: z134 :: z135 :: z136 :: z137 :: z138 :: z139 :: z140 :: z141 :: z142 :: z143 :: z144 :: z145 :: []).toArray, defers := (D :: Ds).map mark } : Act)) (a := (n : Int) + (ct.length : Int)) (a' := (ptsN (g.ct.take (k + 1)) : Int)) (b := wrap64 ((k : Int) + 1)) (b' := ((k + 1 : Nat) : Int)) (by rw [HPT.out, Int.natCast_add]) (wk64 k HK6.out), lH_ ?_⟩ (lt_mu rfl rfl (wk64 k HK6.out) HKL.out)
  rw [HTK.out]
  exact ⟨BO4.out.put 0 _ rfl, Kd.R_set HR5 BO4.out (by decide) 0 _, (HKP3.out.trans (Sc.of HB4.out (Nat.le_refl _) (Nat.le_of_lt HGO.out))).trans (Sc.setG _ _ _ 0 _), HM4.setCell ⟨gO, 0, none⟩ _ ⟨_, BO4.out, rfl⟩⟩
 case stop =>
  rintro D c pre W3 _ _ h _
  exact h.elim
end Go.Proofs.Ythpccdhmppbkfaa
/- outline's At: its loop over anchors. -/
namespace Go.Proofs.Ythpccdhmppbkfaa
open Go.RowKit Go.Shelf Go.Proofs.YthpccdhmppbkfaaW.PrintWords Go.Proofs.YthpccdhmppbkfaaW.PrintLast Go.Proofs.YthpccdhmppbkfaaW.PrintMore
attribute [local go_sem] storeFn Oper.semAt_some
noncomputable def atLoop2 : Code := ((Try.f14.body.map loopsOf).getD []).getD 1 .skip
def plAs (dl : List Dl) (sh : List I2) (n : Nat) (an : List I3) (k : Nat) : List I3 := (List.range k).map fun j => plA dl sh (n + j) (an.getD j zI3)
theorem plAs_succ (dl : List Dl) (sh : List I2) (n : Nat) (an : List I3) (k : Nat) : plAs dl sh n an (k + 1) = plAs dl sh n an k ++ [plA dl sh (n + k) (an.getD k zI3)] := by simp [plAs, List.range_succ]
structure InA (w7 : World) (gO : Nat) (vc o2 o3 o4 o5 : Value) (xs : List I3) (v : Value) (W : World) : Prop where
 box : Blk W gO #[vc, v, o2, o3, o4, o5] 51
 row : Kd.R kI3 25 W w7.heap.size (fun _ => True) v xs
 keep : Sc w7.heap.size gO w7 W
theorem eq_of1 {α : Type} (f : Int → α) {a a' : Int} (ha : a = a') : f a = f a' := by rw [ha]
theorem lt_mu99 {T U : Array Value} {L k : Nat} {x y : Int} (ha : T[99]? = some (.int .i64 x)) (hb : U[99]? = some (.int .i64 y)) (hx : x = ((k + 1 : Nat) : Int)) (hk : k < L) (hy : y = (k : Int) := by rfl) : L - (intOf (T.getD 99 undef)).toNat < L - (intOf (U.getD 99 undef)).toNat := by
 subst hx hy
 rw [Array.getD_eq_getD_getElem?, Array.getD_eq_getD_getElem?, ha, hb]
 simp [intOf]
 omega
set_option maxRecDepth 1000000 in
theorem at_loop2 {R : Int} (g : Gl) (sh : List I2) (va : Option Addr) (cv : Nat) (q2 : Option Addr) (m2 : Nat) (q3 : Option Addr) (m3 : Nat) (w w7 : World) (gP gO n : Nat) (vc o2 o3 o4 o5 : Value) (dfs : List Deferred)
  (hGa : Kd.C kI3 w q2 g.an.length g.an) (hGd : Kd.C kDl w q3 g.dl.length g.dl) (hSh : ∀ W, Sc w7.heap.size gO w7 W → Kd.C kI2 W va g.dl.length sh) (hsl : sh.length = g.dl.length) (hok : g.Good R) (hn : n = ptsN g.ct) (hnd : g.dl.length ≤ 1000000) (hX7 : Below w.heap.size w w7) (hO : w.heap.size ≤ gO) (hP7 : Blk w7 gP #[.func (.func 47) #[.agg #[.slice q3 g.dl.length m3, .slice va g.dl.length cv]] #[]] 104) (hPO : gP ≠ gO) (h0 : Blk w7 gO #[vc, .slice none 0 0, o2, o3, o4, o5] 51) (Q0 : Exit → Act → World → Prop) (z0 z1 z2 z3 z4 z5 z6 z7 z8 z9 z13 z14 z15 z16 z17 z20 z21 z22 z23 z24 z25 z26 z27 z28 z29 z30 z31 z32 z33 z34 z35 z36 z37 z38 z39 z40 z41 z42 z43 z44 z45 z46 z47 z48 z49 z50 z51 z52 z53 z54 z55 z56 z57 z58 z59 z60 z61 z62 z63 z64 z65 z66 z67 z68 z69 z70 z71 z72 z73 z74 z75 z76 z77 z78 z79 z80 z81 z82 z83 z84 z85 z86 z87 z88 z89 z90 z91 z92 z93 z94 z95 z96 z125 z126 z127 z128 z129 z130 z131 z132 z133 z134 z135 z136 z137 z138 z139 z140 z141 z142 z143 z144 z145 u18 u19 u100 u101 u102 u103 u104 u105 u106 u107 u108 u109 u110 u111 u112 u113 u114 u115 u116 u117 u118 u119 u120 u121 u122 u123 u124 : Value)
  (hex : ∀ (v : Value) (W : World) (u18 u19 u100 u101 u102 u103 u104 u105 u106 u107 u108 u109 u110 u111 u112 u113 u114 u115 u116 u117 u118 u119 u120 u121 u122 u123 u124 : Value), InA w7 gO vc o2 o3 o4 o5 (plAs g.dl sh n g.an g.an.length) v W → Q0 (.exit 4) { tmps := (z0 :: z1 :: z2 :: z3 :: z4 :: z5 :: z6 :: z7 :: z8 :: z9 :: (.pointer (some ⟨gP, 0, none⟩)) :: (.pointer (some ⟨gO, 0, none⟩)) :: (.int .i64 (n : Int)) :: z13 :: z14 :: z15 :: z16 :: z17 :: u18 :: u19 :: z20 :: z21 :: z22 :: z23 :: z24 :: z25 :: z26 :: z27 :: z28 :: z29 :: z30 :: z31 :: z32 :: z33 :: z34 :: z35 :: z36 :: z37 :: z38 :: z39 :: z40 :: z41 :: z42 :: z43 :: z44 :: z45 :: z46 :: z47 :: z48 :: z49 :: z50 :: z51 :: z52 :: z53 :: z54 :: z55 :: z56 :: z57 :: z58 :: z59 :: z60 :: z61 :: z62 :: z63 :: z64 :: z65 :: z66 :: z67 :: z68 :: z69 :: z70 :: z71 :: z72 :: z73 :: z74 :: z75 :: z76 :: z77 :: z78 :: z79 :: z80 :: z81 :: z82 :: z83 :: z84 :: z85 :: z86 :: z87 :: z88 :: z89 :: z90 :: z91 :: z92 :: z93 :: z94 :: z95 :: z96 :: (.slice q2 g.an.length m2) :: (.int .i64 (g.an.length : Int)) :: (.int .i64 (g.an.length : Int)) :: u100 :: u101 :: u102 :: u103 :: u104 :: u105 :: u106 :: u107 :: u108 :: u109 :: u110 :: u111 :: u112 :: u113 :: u114 :: u115 :: u116 :: u117 :: u118 :: u119 :: u120 :: u121 :: u122 :: u123 :: u124 :: z125 :: z126 :: z127 :: z128 :: z129 :: z130 :: z131 :: z132 :: z133 :: z134 :: z135 :: z136 :: z137 :: z138 :: z139 :: z140 :: z141 :: z142 :: z143 :: z144 :: z145 :: []).toArray, defers := dfs } W) :
  Code.wp Try.prog (Code.loop atLoop2) Q0 { tmps := (z0 :: z1 :: z2 :: z3 :: z4 :: z5 :: z6 :: z7 :: z8 :: z9 :: (.pointer (some ⟨gP, 0, none⟩)) :: (.pointer (some ⟨gO, 0, none⟩)) :: (.int .i64 (n : Int)) :: z13 :: z14 :: z15 :: z16 :: z17 :: u18 :: u19 :: z20 :: z21 :: z22 :: z23 :: z24 :: z25 :: z26 :: z27 :: z28 :: z29 :: z30 :: z31 :: z32 :: z33 :: z34 :: z35 :: z36 :: z37 :: z38 :: z39 :: z40 :: z41 :: z42 :: z43 :: z44 :: z45 :: z46 :: z47 :: z48 :: z49 :: z50 :: z51 :: z52 :: z53 :: z54 :: z55 :: z56 :: z57 :: z58 :: z59 :: z60 :: z61 :: z62 :: z63 :: z64 :: z65 :: z66 :: z67 :: z68 :: z69 :: z70 :: z71 :: z72 :: z73 :: z74 :: z75 :: z76 :: z77 :: z78 :: z79 :: z80 :: z81 :: z82 :: z83 :: z84 :: z85 :: z86 :: z87 :: z88 :: z89 :: z90 :: z91 :: z92 :: z93 :: z94 :: z95 :: z96 :: (.slice q2 g.an.length m2) :: (.int .i64 (g.an.length : Int)) :: (.int .i64 0) :: u100 :: u101 :: u102 :: u103 :: u104 :: u105 :: u106 :: u107 :: u108 :: u109 :: u110 :: u111 :: u112 :: u113 :: u114 :: u115 :: u116 :: u117 :: u118 :: u119 :: u120 :: u121 :: u122 :: u123 :: u124 :: z125 :: z126 :: z127 :: z128 :: z129 :: z130 :: z131 :: z132 :: z133 :: z134 :: z135 :: z136 :: z137 :: z138 :: z139 :: z140 :: z141 :: z142 :: z143 :: z144 :: z145 :: []).toArray, defers := dfs } w7 := by
 have HGA := lH_ hGa
 have HGD := lH_ hGd
 have HSH := lH_ hSh
 have HSL := lH_ hsl
 have HOK := lH_ hok
 have HND := lH_ hnd
 have HX7 := lH_ hX7
 have HO := lH_ hO
 have HP7 := lH_ hP7
 have HPO := lH_ hPO
 have HEX := lH_ hex
 have HN := lH_ hn
 clear hGa hGd hSh hsl hok hnd hX7 hO hP7 hPO hex hn
 refine loop_acts (fun a W => ∃ (k : Nat) (u18 u19 u100 u101 u102 u103 u104 u105 u106 u107 u108 u109 u110 u111 u112 u113 u114 u115 u116 u117 u118 u119 u120 u121 u122 u123 u124 : Value) (v : Value), k ≤ g.an.length ∧ a = { tmps := (z0 :: z1 :: z2 :: z3 :: z4 :: z5 :: z6 :: z7 :: z8 :: z9 :: (.pointer (some ⟨gP, 0, none⟩)) :: (.pointer (some ⟨gO, 0, none⟩)) :: (.int .i64 (n : Int)) :: z13 :: z14 :: z15 :: z16 :: z17 :: u18 :: u19 :: z20 :: z21 :: z22 :: z23 :: z24 :: z25 :: z26 :: z27 :: z28 :: z29 :: z30 :: z31 :: z32 :: z33 :: z34 :: z35 :: z36 :: z37 :: z38 :: z39 :: z40 :: z41 :: z42 :: z43 :: z44 :: z45 :: z46 :: z47 :: z48 :: z49 :: z50 :: z51 :: z52 :: z53 :: z54 :: z55 :: z56 :: z57 :: z58 :: z59 :: z60 :: z61 :: z62 :: z63 :: z64 :: z65 :: z66 :: z67 :: z68 :: z69 :: z70 :: z71 :: z72 :: z73 :: z74 :: z75 :: z76 :: z77 :: z78 :: z79 :: z80 :: z81 :: z82 :: z83 :: z84 :: z85 :: z86 :: z87 :: z88 :: z89 :: z90 :: z91 :: z92 :: z93 :: z94 :: z95 :: z96 :: (.slice q2 g.an.length m2) :: (.int .i64 (g.an.length : Int)) :: (.int .i64 (k : Int)) :: u100 :: u101 :: u102 :: u103 :: u104 :: u105 :: u106 :: u107 :: u108 :: u109 :: u110 :: u111 :: u112 :: u113 :: u114 :: u115 :: u116 :: u117 :: u118 :: u119 :: u120 :: u121 :: u122 :: u123 :: u124 :: z125 :: z126 :: z127 :: z128 :: z129 :: z130 :: z131 :: z132 :: z133 :: z134 :: z135 :: z136 :: z137 :: z138 :: z139 :: z140 :: z141 :: z142 :: z143 :: z144 :: z145 :: []).toArray, defers := dfs } ∧ Hid (InA w7 gO vc o2 o3 o4 o5 (plAs g.dl sh n g.an k) v W)) (fun a _ => g.an.length - (intOf (a.tmps.getD 99 undef)).toNat) ?_ ?_
 ·exact ⟨0, u18, u19, u100, u101, u102, u103, u104, u105, u106, u107, u108, u109, u110, u111, u112, u113, u114, u115, u116, u117, u118, u119, u120, u121, u122, u123, u124, .slice none 0 0, Nat.zero_le _, rfl, lH_ ⟨h0, Kd.R_nil _ _ _ _ _, Sc.refl _ _ _⟩⟩
 have HGO := lH_ h0.lt
 rintro Kn a W ⟨k, u18, u19, u100, u101, u102, u103, u104, u105, u106, u107, u108, u109, u110, u111, u112, u113, u114, u115, u116, u117, u118, u119, u120, u121, u122, u123, u124, v, hk, rfl, HI⟩ HK
 have HWW := lH_ (HX7.out.trans (HI.out.keep.below.mono HO.out))
 by_cases hlt : k < g.an.length
 case neg =>
  obtain rfl : k = g.an.length := by omega
  clear HK
  conv => arg 2; whnf
  go_wp2_with fail
  exact HEX.out _ _ _ _ _ _ _ _ _ _ _ _ _ _ _ _ _ _ _ _ _ _ _ _ _ _ _ _ _ HI.out
 have HKK := lH_ HK
 clear HK
 conv => arg 2; whnf
 obtain ⟨ad, c0_, c1_, c2_, had, hK, p0, p1, p2⟩ := el3 (d := kI3) rfl HGA.out zI3 k hlt
 have hcs := kI3_open hK
 simp only [List.cons.injEq, and_true] at hcs
 obtain ⟨rfl, rfl, rfl⟩ := hcs
 subst had
 replace p0 := pw_cell_below HWW.out p0
 replace p1 := pw_cell_below HWW.out p1
 replace p2 := pw_cell_below HWW.out p2
 have HTK := lH_ (plAs_succ g.dl sh n g.an k)
 have HKL := lH_ hlt
 have HPA := lH_ (HOK.out.an _ (getD_at hlt zI3))
 have HNN := lH_ (show n + k < g.pts by rw [HN.out]; unfold Gl.pts; omega)
 have HNP := lH_ HOK.out.np
 generalize g.an.getD k zI3 = an at *
 obtain ⟨x0, x1, x2⟩ := an
 dsimp only at p0 p1 p2 HPA
 have d1 : decide (k < g.an.length) = true := decide_eq_true hlt
 have bk0 : (0 : Int) ≤ (k : Int) := by omega
 have bk1 : (k : Int) < (g.an.length : Int) := by omega
 clear hlt hK
 go_upto_region 27 with fail
 obtain ⟨W1, gB, hw0_, hg0_, XgB_, YgB_, _⟩ := new_box W #[.int .i64 x0, .int .i64 x1, .int .i64 x2] 25
 rw [hw0_, hg0_]
 have EgB := lH_ (show gB = W.heap.size + 0 by omega)
 clear hw0_ hg0_
 have HXW1 := lH_ (YgB_.out)
 have BgB := lH_ (XgB_.out)
 clear XgB_ YgB_
 clear p0 p1 p2
 have h4 := Kd.C_below HGD.out (HWW.out.trans (HXW1.out.mono HWW.out.size))
 have h5 := Kd.C_below (HSH.out W HI.out.keep) HXW1.out
 rw [← HSL.out] at h5
 have h6 : ∀ d ∈ g.dl, n + k < d.moves.length := fun d hd => by rw [(HOK.out.dl d hd).2.2]; exact HNN.out
 have h7 := HPA.out
 have HPL := lH_ (place_any (n + k) x1 x2 g.dl q3 m3 sh va cv W1 (by omega) (by omega) HND.out HSL.out h4 h5 h6)
 rw [HSL.out, Int.natCast_add] at HPL
 have HPP : Hid (plA g.dl sh (n + k) ⟨x0, x1, x2⟩ = ⟨x0, sumB (fun d => (d.moves.getD (n + k) zI2).a) x1 g.dl sh, sumB (fun d => (d.moves.getD (n + k) zI2).b) x2 g.dl sh⟩) := lH_ rfl
 obtain ⟨sx, hsx⟩ : ∃ s, sumB (fun d => (d.moves.getD (n + k) zI2).a) x1 g.dl sh = s := ⟨_, rfl⟩
 obtain ⟨sy, hsy⟩ : ∃ s, sumB (fun d => (d.moves.getD (n + k) zI2).b) x2 g.dl sh = s := ⟨_, rfl⟩
 rw [hsx, hsy] at HPL HPP
 clear h4 h5 h6 h7 hsx hsy
 have hwr := wr64 n k (by have := HNN.out; have := HNP.out; omega)
 have NBO := lH_ (show gB ≠ gO by have := HI.out.box.lt; have := EgB.out; omega)
 have pc := ((HI.out.keep.blk HP7.out HP7.out.lt HPO.out).below HXW1.out).cell 0
 have b1 := BgB.out.cell 1
 have b2 := BgB.out.cell 2
 simp only [gA_, gZ_, gS_] at b1 b2 pc
 go_wp2_with fail
 refine HPL.out.mono ?_
 rintro e W4 ⟨rfl, hb⟩
 have BB4 := lH_ (BgB.out.below hb)
 have HB4 := lH_ (bthen' HXW1.out hb)
 clear hb b1 b2 pc HPL
 have b1 := BB4.out.cell 1
 have b2 := BB4.out.cell 2
 simp only [gA_, gZ_, gS_] at b1 b2
 have f1 := BB4.out.frozen 1
 have f2 := BB4.out.frozen 2
 go_upto_region 28 with fail
 have BB5 : Hid (Blk _ gB #[.int .i64 x0, .int .i64 sx, .int .i64 sy] 25) := lH_ ((BB4.out.put 1 (.int .i64 sx) rfl).put 2 (.int .i64 sy) rfl)
 have hgb : W.heap.size ≤ gB := by have := EgB.out; omega
 have HB5 := lH_ (bset (bset HB4.out hgb 1 (.int .i64 sx)) hgb 2 (.int .i64 sy))
 clear b1 b2 f1 f2 BB4 HB4
 generalize World.setCell (World.setCell _ _ _) _ _ = W5 at *
 generalize hAS : plAs g.dl sh n g.an k = xs at *
 have HAL := lH_ (show xs.length = k by rw [← hAS]; simp [plAs])
 obtain ⟨Av, cw, rfl⟩ := Kd.R_slice HI.out.row
 have HV5 := lH_ (Kd.R_below HI.out.row HB5.out)
 have BO5 := lH_ (HI.out.box.below HB5.out)
 have HZ5 := lH_ (show w7.heap.size ≤ W5.heap.size from Nat.le_trans HI.out.keep.size HB5.out.size)
 have HK5 := lH_ (HI.out.keep.step HI.out.keep.size (by have := HGO.out; have := HI.out.keep.size; omega) HB5.out)
 have HKC := lH_ (show xs.length ≤ 6 by have := HAL.out; have := HKL.out; have := HOK.out.na; omega)
 have hx := BO5.out.cell 1
 have b0 := BB5.out.cell 0
 have b1 := BB5.out.cell 1
 have b2 := BB5.out.cell 2
 simp only [gA_, gZ_, gS_] at b0 b1 b2
 simp only [gA_, gZ_, gS_] at hx
 go_wp2_with (at_builtin; go_loud (refine Kd.R_append kI3 (W := W5) (w0 := W5) w7.heap.size rfl (.tmp 119) (.tmp 121) 23 25 _ 24 rfl (by kernel_rfl) infoAn rfl (by decide) (by omega) (.slice Av xs.length cw) xs ⟨x0, sx, sy⟩ [.int .i64 x0, .int .i64 sx, .int .i64 sy] (fun _ => True) (fun _ => False) rfl rfl (kI3_mkM _ _ _ ⟨x0, sx, sy⟩) (fun _ h => h.elim) (fun _ _ => trivial) HV5.out (Below.refl _ _) HZ5.out (by have := HKC.out; omega) ?_); intro v4 w4 hR4 hB4 hG4 hat4; obtain ⟨A4, c4, rfl⟩ := Kd.R_slice hR4; have HR4 := lH_ hR4; have HB4 := lH_ hB4; have HG4 := lH_ hG4; have bo4 := (hG4.block gO BO5.out.lt (Kd.R_ne HV5.out BO5.out (by decide))).trans BO5.out; have BO4 : Hid (Blk w4 gO _ _) := lH_ bo4; have hx4 := BO4.out.cell 1; have hz4 := BO4.out.frozen 1; simp only [gA_, gZ_, gS_] at hx4; clear hR4 hB4 hG4 hat4 bo4 hx b0 b1 b2)
 have HR5 : Kd.R kI3 25 w4 w7.heap.size (fun _ => True) (.slice A4 (xs.length + 1) c4) (xs ++ [⟨x0, sx, sy⟩]) := by have h := HR4.out; rw [List.length_append, List.length_singleton] at h; exact h
 refine HKK.out _ _ ⟨k + 1, _, _, _, _, _, _, _, _, _, _, _, _, _, _, _, _, _, _, _, _, _, _, _, _, _, _, _, .slice A4 (xs.length + 1) c4, HKL.out, eq_of1 (fun k_ => ({ tmps := (z0 :: z1 :: z2 :: z3 :: z4 :: z5 :: z6 :: z7 :: z8 :: z9 :: (.pointer (some ⟨gP, 0, none⟩)) :: (.pointer (some ⟨gO, 0, none⟩)) :: (.int .i64 (n : Int)) :: z13 :: z14 :: z15 :: z16 :: z17 :: _ :: _ :: z20 :: z21 :: z22 :: z23 :: z24 :: z25 :: z26 :: z27 :: z28 :: z29 :: z30 :: z31 :: z32 :: z33 :: z34 :: z35 :: z36 :: z37 :: z38 :: z39 :: z40 :: z41 :: z42 :: z43 :: z44 :: z45 :: z46 :: z47 :: z48 :: z49 :: z50 :: z51 :: z52 :: z53 :: z54 :: z55 :: z56 :: z57 :: z58 :: z59 :: z60 :: z61 :: z62 :: z63 :: z64 :: z65 :: z66 :: z67 :: z68 :: z69 :: z70 :: z71 :: z72 :: z73 :: z74 :: z75 :: z76 :: z77 :: z78 :: z79 :: z80 :: z81 :: z82 :: z83 :: z84 :: z85 :: z86 :: z87 :: z88 :: z89 :: z90 :: z91 :: z92 :: z93 :: z94 :: z95 :: z96 :: (.slice (some ad) g.an.length m2) :: (.int .i64 (g.an.length : Int)) :: (.int .i64 k_) :: _ :: _ :: _ :: _ :: _ :: _ :: _ :: _ :: _ :: _ :: _ :: _ :: _ :: _ :: _ :: _ :: _ :: _ :: _ :: _ :: _ :: _ :: _ :: _ :: _ :: z125 :: z126 :: z127 :: z128 :: z129 :: z130 :: z131 :: z132 :: z133 :: z134 :: z135 :: z136 :: z137 :: z138 :: z139 :: z140 :: z141 :: z142 :: z143 :: z144 :: z145 :: []).toArray, defers := dfs } : Act)) (a := wrap64 ((k : Int) + 1)) (a' := ((k + 1 : Nat) : Int)) (wk64 k (by have := HKL.out; have := HOK.out.na; omega)), lH_ ?_⟩ (lt_mu99 rfl rfl (wk64 k (by have := HKL.out; have := HOK.out.na; omega)) HKL.out)
 rw [HTK.out, HPP.out]
 exact ⟨BO4.out.put 1 _ rfl, Kd.R_set HR5 BO4.out (by decide) 1 _, (HK5.out.trans (Sc.of HB4.out (Nat.le_refl _) (Nat.le_of_lt HGO.out))).trans (Sc.setG _ _ _ 1 _)⟩
end Go.Proofs.Ythpccdhmppbkfaa
/- outline's At. -/
namespace Go.Proofs.Ythpccdhmppbkfaa
open Go.RowKit Go.Shelf Go.Proofs.YthpccdhmppbkfaaW.PrintWords Go.Proofs.YthpccdhmppbkfaaW.PrintLast Go.Proofs.YthpccdhmppbkfaaW.PrintMore
attribute [local go_sem] storeFn Oper.semAt_some
def oAtt.T8 : Bool × List (List Nat × List Nat) := (true, [([], []), ([0], [0]), ([], []), ([2], [2]), ([], []), ([3, 4], [3, 4]), ([1, 5], [1, 5]), ([], []), ([7, 6, 5, 0, 1, 2, 3, 4, 5, 6, 7], [6, 7])])
def oAtt.B8 : List Nat := [0, 1, 0, 4, 0, 28, 63, 0, 255]
theorem oAtt.tab8 : rtab .any (opsOf Try.f14 8) = oAtt.T8 := by kernel_rfl
theorem oAtt.bits8 : waitsOk oAtt.T8.2 oAtt.B8 = true := by kernel_rfl
def oAtt.T10 : Bool × List (List Nat × List Nat) := (true, [([], []), ([0], [0]), ([], []), ([], []), ([3], [3]), ([2, 4], [2, 4]), ([1, 5], [1, 5]), ([], []), ([7, 6, 5, 0, 1, 2, 3, 4, 5, 6, 7], [6, 7])])
def oAtt.B10 : List Nat := [0, 1, 0, 0, 8, 28, 63, 0, 255]
theorem oAtt.tab10 : rtab .any (opsOf Try.f14 10) = oAtt.T10 := by kernel_rfl
theorem oAtt.bits10 : waitsOk oAtt.T10.2 oAtt.B10 = true := by kernel_rfl
def atE1 (rs : List (List I3)) (ns : List Int) : Int := if rs.any (fun r => !regB r ns.length) = true then 11 else 0
def atE2 (rs : List (List I3)) (ns : List Int) : Int := if 3 < ns.length ∨ (ns.any fun n => !wiB 64 n) = true then 10 else atE1 rs ns
def atS (g : Gl) (rs : List (List I3)) (ns : List Int) : List I2 := g.dl.map fun d => sclB (rs.getD d.region.toNat []) ns
def atX (g : Gl) (rs : List (List I3)) (ns : List Int) : Int := sumB (fun d => (d.moves.getD (ptsN g.ct + g.an.length) zI2).a) g.hang.b g.dl (atS g rs ns)
def atY (g : Gl) (rs : List (List I3)) (ns : List Int) : Int := sumB (fun d => (d.moves.getD (ptsN g.ct + g.an.length) zI2).b) g.hang.c g.dl (atS g rs ns)
def atV (g : Gl) (rs : List (List I3)) (ns : List Int) : Int := sumB (fun d => d.adv) g.adv g.dl (atS g rs ns)
def atC (g : Gl) (rs : List (List I3)) (ns : List Int) : List (List Pt) := plCs g.dl (atS g rs ns) g.ct g.ct.length
def atA (g : Gl) (rs : List (List I3)) (ns : List Int) : List I3 := plAs g.dl (atS g rs ns) (ptsN g.ct) g.an g.an.length
theorem R_leaves {α : Type} {d : Kd α} {e base B : Nat} {W w' : World} {v : Value} {xs : List α} {Ds : List Nat} (h : Kd.R d e W base (fun _ => True) v xs) (hM : Marks B W Ds) (hs : ∀ i, i ∉ Ds → w'.heap[i]? = W.heap[i]?) : Kd.R d e w' base (fun _ => True) v xs := by
 refine Kd.R_mono (Kd.R_move (Kd.R_bound h) (fun k hk => hs k (fun hD => ?_))) (fun _ hk => hk.1)
 obtain ⟨_, _, _, q, _, cells, hcell⟩ := hk
 rw [(hM.2 k hD).2] at hcell
 cases hcell
def atE (g : Gl) (rs : List (List I3)) (ns : List Int) : Int := if g.chk rs.length = 0 then atE2 rs ns else g.chk rs.length
theorem at_any (g : Gl) (h : Hd) (rs : List (List I3)) (Ar : Option Addr) (cr : Nat) (ns : List Int) (Ba : Option Addr) (ca : Nat) (w : World) (hg : GlR w g h) (hf : g.few) (hC : Kd.C kRg w Ar rs.length rs) (hD : Kd.C kI w Ba ns.length ns) (hrl : rs.length ≤ 1000000) (hnl : ns.length ≤ 140737488355328) :
  Calls Try.prog 14 #[.agg (gv g h), .slice Ar rs.length cr, .slice Ba ns.length ca] w fun e w' => Below w.heap.size w w' ∧ ((atE g rs ns ≠ 0 ∧ e = .returned (.tuple #[.agg #[.slice none 0 0, .slice none 0 0, .int .i64 0, .int .i64 0, .int .i64 0, .int .i64 0], .int .i64 (atE g rs ns)])) ∨ (atE g rs ns = 0 ∧ ∃ vb va, e = .returned (.tuple #[.agg #[vb, va, .int .i64 g.hang.a, .int .i64 (atX g rs ns), .int .i64 (atY g rs ns), .int .i64 (atV g rs ns)], .int .i64 0]) ∧ Kd.R kCt 71 w' w.heap.size (fun _ => True) vb (atC g rs ns) ∧ Kd.R kI3 25 w' w.heap.size (fun _ => True) va (atA g rs ns))) := by
 have HG := lH_ hg
 have HFW := lH_ hf
 have HRS := lH_ hC
 have HNS := lH_ hD
 have HRL := lH_ hrl
 have HNL := lH_ hnl
 have HE : Hid (atE g rs ns = if g.chk rs.length = 0 then atE2 rs ns else g.chk rs.length) := lH_ rfl
 clear hg hf hC hD hrl hnl
 refine callsIn_wide.1 (callsIn_of_wp_marks (n := 3) Try.func14 rfl trivial (wpIn_wide.2 ?_) rfl)
 simp only [Try.ntmps14, List.size_toArray, List.length_cons, List.length_nil, Nat.reduceAdd, Nat.reduceSub, Array.replicate_succ, Array.replicate_zero, List.push_toArray, List.append_toArray, List.nil_append, List.cons_append]
 obtain ⟨q1, m1, q2, m2, q3, m3, q4, m4⟩ := h
 unfold gv
 dsimp only
 go_upto_region 1 with fail
 obtain ⟨wa, gG, hw0_, hg0_, XgG_, YgG_, _⟩ := new_box w #[.slice q1 g.ct.length m1, .slice q2 g.an.length m2, .int .i64 g.hang.a, .int .i64 g.hang.b, .int .i64 g.hang.c, .int .i64 g.adv, .slice q3 g.dl.length m3, .slice q4 g.pr.length m4] 29
 obtain ⟨wb, gR, hw1_, hg1_, XgR_, YgR_, _⟩ := new_box wa #[.slice Ar rs.length cr] 36
 obtain ⟨wc, gN, hw2_, hg2_, XgN_, YgN_, _⟩ := new_box wb #[.slice Ba ns.length ca] 30
 obtain ⟨wd, gD, hw3_, hg3_, XgD_, YgD_, _⟩ := new_box wc #[.slice none 0 0, .slice none 0 0, .int .i64 0, .int .i64 0, .int .i64 0, .int .i64 0] 51
 have s1_ : w.heap.size + 1 = gR := by rw [← hg1_, ← hw0_]; simp
 have s2_ : w.heap.size + 1 + 1 = gN := by rw [← hg2_, ← hw1_, ← hw0_]; simp
 have s3_ : w.heap.size + 1 + 1 + 1 = gD := by rw [← hg3_, ← hw2_, ← hw1_, ← hw0_]; simp
 rw [hw0_, hw1_, hw2_, hw3_, s3_, s2_, s1_, hg0_]
 have EgG := lH_ (show gG = w.heap.size + 0 by omega)
 have EgR := lH_ (show gR = w.heap.size + 1 by omega)
 have EgN := lH_ (show gN = w.heap.size + 2 by omega)
 have EgD := lH_ (show gD = w.heap.size + 3 by omega)
 clear hw0_ hg0_ hw1_ hg1_ hw2_ hg2_ hw3_ hg3_ s1_ s2_ s3_
 have HXwd := lH_ (bthen' (bthen' (bthen' (YgG_.out) YgR_.out) YgN_.out) YgD_.out)
 have BgG := lH_ ((((XgG_.out).below YgR_.out).below YgN_.out).below YgD_.out)
 have BgR := lH_ (((XgR_.out).below YgN_.out).below YgD_.out)
 have BgN := lH_ ((XgN_.out).below YgD_.out)
 have BgD := lH_ (XgD_.out)
 clear XgG_ YgG_ XgR_ YgR_ XgN_ YgN_ XgD_ YgD_
 have HX := HXwd
 clear HXwd
 have LD := lH_ (show w.heap.size ≤ gD by have := EgD.out; omega)
 have c0 := BgG.out.cell 0
 have c1 := BgG.out.cell 1
 have c2 := BgG.out.cell 2
 have c3 := BgG.out.cell 3
 have c4 := BgG.out.cell 4
 have c5 := BgG.out.cell 5
 have c6 := BgG.out.cell 6
 have c7 := BgG.out.cell 7
 simp only [gA_, gZ_, gS_] at c0 c1 c2 c3 c4 c5 c6 c7
 have d0 := BgR.out.cell 0
 simp only [gA_, gZ_, gS_] at d0
 have n0 := BgN.out.cell 0
 simp only [gA_, gZ_, gS_] at n0
 have hrm : rs.length ≤ 9223372036854775807 := HRS.out.2.1
 have hnm : ns.length ≤ 9223372036854775807 := HNS.out.2.1
 go_wp2_with fail
 refine (check_any g ⟨q1, m1, q2, m2, q3, m3, q4, m4⟩ rs.length wd (HG.out.below HX.out) HFW.out).mono ?_
 rintro e w1 ⟨rfl, hb⟩
 replace HX := lH_ (bthen' HX.out hb)
 replace BgG := lH_ (BgG.out.below hb)
 replace BgR := lH_ (BgR.out.below hb)
 replace BgN := lH_ (BgN.out.below hb)
 replace BgD := lH_ (BgD.out.below hb)
 clear hb
 clear c0 c1 c2 c3 c4 c5 c6 c7 d0 n0
 have HCK := lH_ (show ∃ q, g.chk rs.length = q from ⟨_, rfl⟩)
 obtain ⟨q, hq⟩ := HCK.out
 rw [hq] at HE ⊢
 have HQ := lH_ hq
 clear hq HCK
 by_cases hq0 : q = 0
 ·subst hq0
  replace HE : Hid (atE g rs ns = atE2 rs ns) := lH_ (HE.out.trans (if_pos rfl))
  have n0 := BgN.out.cell 0
  simp only [gA_, gZ_, gS_] at n0
  have HE2 : Hid (atE2 rs ns = if 3 < ns.length ∨ (ns.any fun n => !wiB 64 n) = true then 10 else atE1 rs ns) := lH_ rfl
  by_cases h3 : 3 < ns.length
  ·have HF : Hid (atE g rs ns = 10) := lH_ (by rw [HE.out, HE2.out]; exact if_pos (.inl h3))
   have d3 : decide (3 < ns.length) = true := decide_eq_true h3
   have d3' : decide (3 < (ns.length : Int)) = true := decide_eq_true (by omega)
   clear h3
   have z0 := BgD.out.cell 0
   have z1 := BgD.out.cell 1
   have z2 := BgD.out.cell 2
   have z3 := BgD.out.cell 3
   have z4 := BgD.out.cell 4
   have z5 := BgD.out.cell 5
   simp only [gA_, gZ_, gS_] at z0 z1 z2 z3 z4 z5
   have f0 := BgD.out.frozen 0
   have f1 := BgD.out.frozen 1
   have f2 := BgD.out.frozen 2
   have f3 := BgD.out.frozen 3
   have f4 := BgD.out.frozen 4
   have f5 := BgD.out.frozen 5
   go_wp2_with fail
   exact at_leaves ((((((BgD.out.put 0 _ rfl).put 1 _ rfl).put 2 _ rfl).put 3 _ rfl).put 4 _ rfl).put 5 _ rfl) [] (Marks.nil w.heap.size _) (by simp) _ rfl rfl (fun w2_ hb2_ _ => ⟨(bset (bset (bset (bset (bset (bset HX.out LD.out 0 _) LD.out 1 _) LD.out 2 _) LD.out 3 _) LD.out 4 _) LD.out 5 _).trans hb2_, .inl ⟨by rw [HF.out]; decide, by rw [HF.out]⟩⟩)
  ·have d3 : decide (3 < ns.length) = false := decide_eq_false h3
   have d3' : decide (3 < (ns.length : Int)) = false := decide_eq_false (by omega)
   have HN3 := lH_ h3
   clear h3
   go_wp2_with fail
   refine (within_any 64 ns Ba ca w1 (by omega) (Kd.C_below HNS.out HX.out)).mono ?_
   rintro e w2 ⟨rfl, hb⟩
   replace HX := lH_ (bthen' HX.out hb)
   replace BgG := lH_ (BgG.out.below hb)
   replace BgR := lH_ (BgR.out.below hb)
   replace BgN := lH_ (BgN.out.below hb)
   replace BgD := lH_ (BgD.out.below hb)
   clear hb
   clear n0
   obtain ⟨q, hq⟩ : ∃ q, (ns.any fun n => !wiB 64 n) = q := ⟨_, rfl⟩
   rw [hq]
   have HQ2 := lH_ hq
   clear hq
   cases q
   ·replace HE : Hid (atE g rs ns = atE1 rs ns) := lH_ (by rw [HE.out, HE2.out]; exact if_neg (by rintro (h | h); exact HN3.out h; rw [HQ2.out] at h; cases h))
    have HE1 : Hid (atE1 rs ns = if rs.any (fun r => !regB r ns.length) = true then 11 else 0) := lH_ rfl
    have d0 := BgR.out.cell 0
    simp only [gA_, gZ_, gS_] at d0
    go_wp2_with fail
    refine (any_region (d := kRg) [] (fun r => !regB r ns.length) rs Ar cr (.pointer (some ⟨gN, 0, none⟩)) w2 rfl (Kd.C_below HRS.out HX.out) (fun j hj c0 hk W1 hb1 => ?_)).mono ?_
    ·obtain ⟨A3, c3, hcs, _, hR⟩ := kSl_open hk
     obtain rfl : c0 = _ := List.head_eq_of_cons_eq hcs
     exact at1_any _ A3 c3 ns.length Ba ca gN W1 (Kd.C_below hR hb1) (pw_cell_below hb1 (BgN.out.cell 0)) hnm
    rintro e w3 ⟨rfl, hb⟩
    replace HX := lH_ (bthen' HX.out hb)
    replace BgG := lH_ (BgG.out.below hb)
    replace BgR := lH_ (BgR.out.below hb)
    replace BgN := lH_ (BgN.out.below hb)
    replace BgD := lH_ (BgD.out.below hb)
    clear hb
    clear d0
    obtain ⟨q, hq⟩ : ∃ q, (rs.any fun r => !regB r ns.length) = q := ⟨_, rfl⟩
    rw [hq]
    have HQ3 := lH_ hq
    clear hq
    cases q
    ·replace HE : Hid (atE g rs ns = 0) := lH_ (by rw [HE.out, HE1.out]; exact if_neg (by rw [HQ3.out]; simp))
     clear HE1 HE2
     have HOK := lH_ (chk_good g rs.length HQ.out)
     clear HQ
     have y6 : Hid (w3.cell? ⟨gG, 6, none⟩ = some (.slice q3 g.dl.length m3)) := lH_ (BgG.out.cell 6)
     have yR : Hid (w3.cell? ⟨gR, 0, none⟩ = some (.slice Ar rs.length cr)) := lH_ (BgR.out.cell 0)
     have yN : Hid (w3.cell? ⟨gN, 0, none⟩ = some (.slice Ba ns.length ca)) := lH_ (BgN.out.cell 0)
     have HMAP := lH_ (fun W1 (hW : Below w3.heap.size w3 W1) => mappedS_any (fun d => sclB (rs.getD d.region.toNat []) ns) g.dl q3 m3 (.pointer (some ⟨gR, 0, none⟩)) (.pointer (some ⟨gN, 0, none⟩)) W1 HFW.out.2.2.1 (Kd.C_below HG.out.dl (bthen' HX.out hW)) (fun j hj Am cm hm W2 hW2 => by
  have hgd := HOK.out.dl _ (getD_at hj zDl)
  exact at2_any _ _ Am cm rs Ar cr ns Ba ca gR gN W2 (by have := hgd.1; omega) (by have := hgd.1; have := hgd.2.1; omega) (Kd.C_below HRS.out (bthen' HX.out (bthen' hW hW2))) (Kd.C_below HNS.out (bthen' HX.out (bthen' hW hW2))) (pw_cell_below (bthen' hW hW2) yR.out) (pw_cell_below (bthen' hW hW2) yN.out)))
     go_upto_region 8 with fail
     refine start_ (n := 9) (S := fun w' => True) (ds := []) #[false, false, false, false, false, false, false, false, false] (by kernel_rfl) rfl rfl trivial (fun hHeld => ?_)
     refine with_tabW oAtt.tab8 oAtt.bits8 (fun HT_ HW_ => ?_)
     have HB : Aside0 (Below w3.heap.size w3 w3.drew) := ⟨bdrew (Below.refl _ _)⟩
     generalize hwd : w3.drew = w1' at *
     clear hwd
     refine inv_at [0, 1, 2, 3, 4, 5, 6, 7, 8] (fun a0_ b a w' => ∃ (va : Option Addr) (cv : Nat) (gA : Nat) (m5_ : Value) (m6_ : Value) (m7_ : Value), a = putSel a0_ b [(0, 41, .pointer (some ⟨gG, 6, none⟩)), (1, 42, .slice q3 g.dl.length m3), (2, 43, .pointer (some ⟨gG, 6, none⟩)), (3, 44, .slice q3 g.dl.length m3), (4, 45, .func (.func 46) #[] #[.pointer (some ⟨gR, 0, none⟩), .pointer (some ⟨gN, 0, none⟩)]), (5, 46, m5_), (6, 47, m6_), (7, 9, m7_)] ∧ (Below w3.heap.size w3 w') ∧ (b 5 = true → Kd.R kI2 48 w' w3.heap.size (fun _ => True) (.slice va g.dl.length cv) (g.dl.map (fun d => sclB (rs.getD d.region.toNat []) ns))) ∧ (b 7 = true → b 8 = false → w3.heap.size ≤ gA ∧ Blk w' gA #[.slice none 0 0, .slice none 0 0] 103) ∧ (b 8 = true → w3.heap.size ≤ gA ∧ Blk w' gA #[.slice q3 g.dl.length m3, .slice va g.dl.length cv] 103) ∧ (b 5 = true → (m5_ : Value) = .slice va g.dl.length cv) ∧ (b 6 = true → (m6_ : Value) = .agg #[.slice q3 g.dl.length m3, .slice va g.dl.length cv]) ∧ (b 7 = true → (m7_ : Value) = .pointer (some ⟨gA, 0, none⟩))) HT_.out HW_.out (by kernel_rfl) (by kernel_rfl) ?_ ?_ ?_
     ·exact ⟨none, 0, 0, .bool false, .bool false, .bool false, by simp only [putSel, Bool.false_eq_true, if_false], HB.out, fun h_ => absurd h_ (by decide), fun h_ => absurd h_ (by decide), fun h_ => absurd h_ (by decide), fun h_ => absurd h_ (by decide), fun h_ => absurd h_ (by decide), fun h_ => absurd h_ (by decide)⟩
     ·skip
      clear HB
      refine steps_cons ?_ ?_
      ·rintro b a w' ⟨va, cv, gA, m5_, m6_, m7_, ha, QHB, QVR, QNgA, QFgA, QX5_, QX6_, QX7_⟩ hb_ hon hoff
       refine ⟨_, rfl, fun K hK => ?_⟩
       have e3 : a.tmps[3]? = some (.pointer (some ⟨gG, 0, none⟩)) := by rw [ha]; exact (putSel_off rfl).trans rfl
       replace ha := aM_ ha
       have HB := aM_ QHB
       refine value_ (w1 := w') (v := .pointer (some ⟨gG, 6, none⟩)) (by rfl) rfl ?_ ?_
       ·go_simp
        (try simp only [i64_w])
        try rfl
       refine hK.out _ _ ⟨va, cv, gA, m5_, m6_, m7_, (by rw [ha.out]; exact putSel_upk 0 hb_ rfl rfl rfl), QHB, QVR, QNgA, dD_ (hoff 8 rfl), QX5_, dD_ (hoff 6 rfl), QX7_⟩
      refine steps_cons ?_ ?_
      ·rintro b a w' ⟨va, cv, gA, m5_, m6_, m7_, ha, QHB, QVR, QNgA, QFgA, QX5_, QX6_, QX7_⟩ hb_ hon hoff
       refine ⟨_, rfl, fun K hK => ?_⟩
       have e41 : a.tmps[41]? = some (.pointer (some ⟨gG, 6, none⟩)) := by rw [ha]; exact putSel_on (e := (0, 41, .pointer (some ⟨gG, 6, none⟩))) 0 rfl rfl (hon 0 rfl) rfl
       replace ha := aM_ ha
       have HB := aM_ QHB
       have z1 := pw_cell_below HB.out y6.out
       refine value_ (w1 := w') (v := .slice q3 g.dl.length m3) (by rfl) rfl ?_ ?_
       ·go_simp
        (try simp only [i64_w])
        try rfl
       refine hK.out _ _ ⟨va, cv, gA, m5_, m6_, m7_, (by rw [ha.out]; exact putSel_upk 1 hb_ rfl rfl rfl), QHB, QVR, QNgA, dD_ (hoff 8 rfl), QX5_, dD_ (hoff 6 rfl), QX7_⟩
      refine steps_cons ?_ ?_
      ·rintro b a w' ⟨va, cv, gA, m5_, m6_, m7_, ha, QHB, QVR, QNgA, QFgA, QX5_, QX6_, QX7_⟩ hb_ hon hoff
       refine ⟨_, rfl, fun K hK => ?_⟩
       have e3 : a.tmps[3]? = some (.pointer (some ⟨gG, 0, none⟩)) := by rw [ha]; exact (putSel_off rfl).trans rfl
       replace ha := aM_ ha
       have HB := aM_ QHB
       refine value_ (w1 := w') (v := .pointer (some ⟨gG, 6, none⟩)) (by rfl) rfl ?_ ?_
       ·go_simp
        (try simp only [i64_w])
        try rfl
       refine hK.out _ _ ⟨va, cv, gA, m5_, m6_, m7_, (by rw [ha.out]; exact putSel_upk 2 hb_ rfl rfl rfl), QHB, dD_ (hoff 5 rfl), QNgA, dD_ (hoff 8 rfl), dD_ (hoff 5 rfl), dD_ (hoff 6 rfl), QX7_⟩
      refine steps_cons ?_ ?_
      ·rintro b a w' ⟨va, cv, gA, m5_, m6_, m7_, ha, QHB, QVR, QNgA, QFgA, QX5_, QX6_, QX7_⟩ hb_ hon hoff
       refine ⟨_, rfl, fun K hK => ?_⟩
       have e43 : a.tmps[43]? = some (.pointer (some ⟨gG, 6, none⟩)) := by rw [ha]; exact putSel_on (e := (2, 43, .pointer (some ⟨gG, 6, none⟩))) 2 rfl rfl (hon 2 rfl) rfl
       replace ha := aM_ ha
       have HB := aM_ QHB
       have z3 := pw_cell_below HB.out y6.out
       refine value_ (w1 := w') (v := .slice q3 g.dl.length m3) (by rfl) rfl ?_ ?_
       ·go_simp
        (try simp only [i64_w])
        try rfl
       refine hK.out _ _ ⟨va, cv, gA, m5_, m6_, m7_, (by rw [ha.out]; exact putSel_upk 3 hb_ rfl rfl rfl), QHB, dD_ (hoff 5 rfl), QNgA, dD_ (hoff 8 rfl), dD_ (hoff 5 rfl), dD_ (hoff 6 rfl), QX7_⟩
      refine steps_cons ?_ ?_
      ·rintro b a w' ⟨va, cv, gA, m5_, m6_, m7_, ha, QHB, QVR, QNgA, QFgA, QX5_, QX6_, QX7_⟩ hb_ hon hoff
       refine ⟨_, rfl, fun K hK => ?_⟩
       have e4 : a.tmps[4]? = some (.pointer (some ⟨gR, 0, none⟩)) := by rw [ha]; exact (putSel_off rfl).trans rfl
       have e5 : a.tmps[5]? = some (.pointer (some ⟨gN, 0, none⟩)) := by rw [ha]; exact (putSel_off rfl).trans rfl
       replace ha := aM_ ha
       have HB := aM_ QHB
       refine value_ (w1 := w') (v := .func (.func 46) #[] #[.pointer (some ⟨gR, 0, none⟩), .pointer (some ⟨gN, 0, none⟩)]) (by rfl) rfl ?_ ?_
       ·go_simp
        (try simp only [i64_w])
        try rfl
       refine hK.out _ _ ⟨va, cv, gA, m5_, m6_, m7_, (by rw [ha.out]; exact putSel_upk 4 hb_ rfl rfl rfl), QHB, dD_ (hoff 5 rfl), QNgA, dD_ (hoff 8 rfl), dD_ (hoff 5 rfl), dD_ (hoff 6 rfl), QX7_⟩
      refine steps_cons ?_ ?_
      ·rintro b a w' ⟨va, cv, gA, m5_, m6_, m7_, ha, QHB, QVR, QNgA, QFgA, QX5_, QX6_, QX7_⟩ hb_ hon hoff
       refine ⟨_, rfl, fun K hK => ?_⟩
       have e44 : a.tmps[44]? = some (.slice q3 g.dl.length m3) := by rw [ha]; exact putSel_on (e := (3, 44, .slice q3 g.dl.length m3)) 3 rfl rfl (hon 3 rfl) rfl
       have e45 : a.tmps[45]? = some (.func (.func 46) #[] #[.pointer (some ⟨gR, 0, none⟩), .pointer (some ⟨gN, 0, none⟩)]) := by rw [ha]; exact putSel_on (e := (4, 45, .func (.func 46) #[] #[.pointer (some ⟨gR, 0, none⟩), .pointer (some ⟨gN, 0, none⟩)])) 4 rfl rfl (hon 4 rfl) rfl
       replace ha := aM_ ha
       have HB := aM_ QHB
       refine call_ 45 #[.slice q3 g.dl.length m3, .func (.func 46) #[] #[.pointer (some ⟨gR, 0, none⟩), .pointer (some ⟨gN, 0, none⟩)]] (by rfl) rfl ?_ ?_
       ·go_simp
       refine (HMAP.out w' HB.out).mono ?_
       rintro e w2' ⟨V, rfl, hR, hb⟩
       obtain ⟨va', cv', rfl⟩ := Kd.R_slice hR
       rw [List.length_map] at hR ⊢
       refine ⟨_, rfl, ?_⟩
       refine hK.out _ _ ⟨va', cv', gA, (.slice va' g.dl.length cv'), m6_, m7_, (by rw [ha.out]; exact putSel_upk 5 hb_ rfl rfl rfl), bthen' HB.out hb, fun _ => Kd.R_lower hR HB.out.size, fun h0_ h1_ => ⟨(QNgA h0_ h1_).1, (QNgA h0_ h1_).2.below hb⟩, dD_ (hoff 8 rfl), fun _ => rfl, dD_ (hoff 6 rfl), QX7_⟩
      refine steps_cons ?_ ?_
      ·rintro b a w' ⟨va, cv, gA, m5_, m6_, m7_, ha, QHB, QVR, QNgA, QFgA, QX5_, QX6_, QX7_⟩ hb_ hon hoff
       refine ⟨_, rfl, fun K hK => ?_⟩
       have e42 : a.tmps[42]? = some (.slice q3 g.dl.length m3) := by rw [ha]; exact putSel_on (e := (1, 42, .slice q3 g.dl.length m3)) 1 rfl rfl (hon 1 rfl) rfl
       have e46 : a.tmps[46]? = some (m5_) := by rw [ha]; exact putSel_on (e := (5, 46, m5_)) 5 rfl rfl (hon 5 rfl) rfl
       rw [QX5_ (hon 5 rfl)] at e46
       replace ha := aM_ ha
       have HB := aM_ QHB
       have VR := aM_ (QVR (hon 5 rfl))
       refine value_ (w1 := w') (v := .agg #[.slice q3 g.dl.length m3, .slice va g.dl.length cv]) (by rfl) rfl ?_ ?_
       ·go_simp
        (try simp only [i64_w])
        try rfl
       refine hK.out _ _ ⟨va, cv, gA, m5_, (.agg #[.slice q3 g.dl.length m3, .slice va g.dl.length cv]), m7_, (by rw [ha.out]; exact putSel_upk 6 hb_ rfl rfl rfl), QHB, QVR, QNgA, dD_ (hoff 8 rfl), QX5_, fun _ => rfl, QX7_⟩
      refine steps_cons ?_ ?_
      ·rintro b a w' ⟨va, cv, gA, m5_, m6_, m7_, ha, QHB, QVR, QNgA, QFgA, QX5_, QX6_, QX7_⟩ hb_ hon hoff
       refine ⟨_, rfl, fun K hK => ?_⟩
       replace ha := aM_ ha
       have HB := aM_ QHB
       refine value_ (w1 := w'.alloc (.cells #[.slice none 0 0, .slice none 0 0] 103)) (v := .pointer (some ⟨w'.heap.size, 0, none⟩)) (by rfl) rfl ?_ ?_
       ·go_simp
       refine hK.out _ _ ⟨va, cv, w'.heap.size, m5_, m6_, (.pointer (some ⟨w'.heap.size, 0, none⟩)), (by rw [ha.out]; exact putSel_upk 7 hb_ rfl rfl rfl), HB.out.trans ((below_alloc (Below.refl _ w') _).mono HB.out.size), fun h0_ => Kd.R_below (QVR h0_) (below_alloc (Below.refl _ w') _), fun _ _ => ⟨HB.out.size, Blk.new w' _ _ rfl⟩, dD_ (hoff 8 rfl), QX5_, QX6_, fun _ => rfl⟩
      refine steps_cons ?_ ?_
      ·rintro b a w' ⟨va, cv, gA, m5_, m6_, m7_, ha, QHB, QVR, QNgA, QFgA, QX5_, QX6_, QX7_⟩ hb_ hon hoff
       refine ⟨_, rfl, fun K hK => ?_⟩
       have e9 : a.tmps[9]? = some (m7_) := by rw [ha]; exact putSel_on (e := (7, 9, m7_)) 7 rfl rfl (hon 7 rfl) rfl
       rw [QX7_ (hon 7 rfl)] at e9
       have e47 : a.tmps[47]? = some (m6_) := by rw [ha]; exact putSel_on (e := (6, 47, m6_)) 6 rfl rfl (hon 6 rfl) rfl
       rw [QX6_ (hon 6 rfl)] at e47
       replace ha := aM_ ha
       have HB := aM_ QHB
       have VR := aM_ (QVR (hon 5 rfl))
       have NgA := aM_ (QNgA (hon 7 rfl) hb_)
       have c0 := NgA.out.2.cell 0
       have c1 := NgA.out.2.cell 1
       simp only [gA_, gZ_, gS_] at c0 c1
       have f0 := NgA.out.2.frozen 0
       have f1 := NgA.out.2.frozen 1
       refine skip_ (w1 := ((w'.setCell ⟨gA, 0, none⟩ (.slice q3 g.dl.length m3)).setCell ⟨gA, 1, none⟩ (.slice va g.dl.length cv))) (by rfl) rfl ?_ ?_
       ·go_simp
       refine hK.out _ _ ⟨va, cv, gA, m5_, m6_, m7_, (by rw [ha.out]; exact putSel_none (v := undef) rfl), (bset (bset HB.out NgA.out.1 0 _) NgA.out.1 1 _), fun _ => (Kd.R_set (Kd.R_set VR.out NgA.out.2 (by decide) 0 _) (NgA.out.2.set 0 _) (by decide) 1 _), fun _ => dE_ (up_self b 8), fun _ => ⟨NgA.out.1, ((NgA.out.2.put 0 _ rfl).put 1 _ rfl)⟩, QX5_, QX6_, QX7_⟩
      exact steps_nil
     ·rintro b a w' hall ⟨va, cv, gA, m5_, m6_, m7_, ha, QHB, QVR, QNgA, QFgA, QX5_, QX6_, QX7_⟩
      clear HB
      have hb0_ := hall 0 (by kernel_rfl)
      have hb1_ := hall 1 (by kernel_rfl)
      have hb2_ := hall 2 (by kernel_rfl)
      have hb3_ := hall 3 (by kernel_rfl)
      have hb4_ := hall 4 (by kernel_rfl)
      have hb5_ := hall 5 (by kernel_rfl)
      have hb6_ := hall 6 (by kernel_rfl)
      have hb7_ := hall 7 (by kernel_rfl)
      have hb8_ := hall 8 (by kernel_rfl)
      subst ha
      obtain rfl := QX5_ hb5_
      obtain rfl := QX6_ hb6_
      obtain rfl := QX7_ hb7_
      simp only [putSel, hb0_, hb1_, hb2_, hb3_, hb4_, hb5_, hb6_, hb7_, hb8_, if_true, Act.put, List.setIfInBounds_toArray, List.set_cons_zero, List.set_cons_succ]
      have HB := aM_ QHB
      clear QHB
      have VR := aM_ (QVR hb5_)
      clear QVR
      clear QNgA
      have FgA := aM_ (QFgA hb8_)
      clear QFgA
      clear hall hb0_ hb1_ hb2_ hb3_ hb4_ hb5_ hb6_ hb7_ hb8_
      generalize w' = w4 at *
      have HX4 := lH_ (bthen' HX.out HB.out)
      have BgG4 := lH_ (BgG.out.below HB.out)
      have BgR4 := lH_ (BgR.out.below HB.out)
      have BgN4 := lH_ (BgN.out.below HB.out)
      have BgD4 := lH_ (BgD.out.below HB.out)
      have LA := lH_ FgA.out.1
      have BgA := lH_ FgA.out.2
      have VR4 := lH_ VR.out
      clear QX5_ QX6_ QX7_ FgA VR HB
      have a0 := BgA.out.cell 0
      have a1 := BgA.out.cell 1
      simp only [gA_, gZ_, gS_] at a0 a1
      go_upto_region 10 with fail
      obtain ⟨w5, gP, hw0_, hg0_, XgP_, YgP_, _⟩ := new_box w4 #[.func (.func 47) #[.agg #[.slice q3 g.dl.length m3, .slice va g.dl.length cv]] #[]] 104
      rw [hw0_, hg0_]
      have EgP := lH_ (show gP = w4.heap.size + 0 by omega)
      clear hw0_ hg0_
      have HXw5 := lH_ (YgP_.out)
      have BgP := lH_ (XgP_.out)
      clear XgP_ YgP_
      have HX5 := lH_ (bthen' HX4.out HXw5.out)
      clear a0 a1
      have A5 := lH_ (BgA.out.below HXw5.out)
      have VR5 := lH_ (Kd.R_below VR4.out HXw5.out)
      have G5 := lH_ (BgG4.out.below HXw5.out)
      have D5 := lH_ (BgD4.out.below HXw5.out)
      have yA0 := lH_ (A5.out.cell 0)
      have yA1 := lH_ (A5.out.cell 1)
      have yG2 : Hid (w5.cell? ⟨gG, 2, none⟩ = some (.int .i64 g.hang.a)) := lH_ (G5.out.cell 2)
      have yG3 : Hid (w5.cell? ⟨gG, 3, none⟩ = some (.int .i64 g.hang.b)) := lH_ (G5.out.cell 3)
      have yG4 : Hid (w5.cell? ⟨gG, 4, none⟩ = some (.int .i64 g.hang.c)) := lH_ (G5.out.cell 4)
      have yG5 : Hid (w5.cell? ⟨gG, 5, none⟩ = some (.int .i64 g.adv)) := lH_ (G5.out.cell 5)
      have HSL := lH_ (show (g.dl.map (fun d => sclB (rs.getD d.region.toNat []) ns)).length = g.dl.length by rw [List.length_map])
      have HSH : Hid (atS g rs ns = g.dl.map (fun d => sclB (rs.getD d.region.toNat []) ns)) := lH_ rfl
      generalize g.dl.map (fun d => sclB (rs.getD d.region.toNat []) ns) = sh at *
      obtain ⟨av, hav⟩ : ∃ v, sumB (fun d => d.adv) g.adv g.dl sh = v := ⟨_, rfl⟩
      have HSUM := lH_ (fun W1 (hW : Below w5.heap.size w5 W1) => sum_adv g.adv g.dl q3 m3 sh va cv W1 (by have := HOK.out.adv; omega) HFW.out.2.2.1 HSL.out (Kd.C_below HG.out.dl (bthen' HX5.out hW)) (by have h := (Kd.R_reads' VR5.out).2.2; exact Kd.C_below h hW))
      rw [hav, HSL.out] at HSUM
      have HAV := lH_ hav
      clear hav
      refine start_ (n := 9) (S := fun w' => True) (ds := []) #[false, false, false, false, false, false, false, false, false] (by kernel_rfl) rfl rfl trivial (fun hHeld => ?_)
      refine with_tabW oAtt.tab10 oAtt.bits10 (fun HT_ HW_ => ?_)
      have HB : Aside0 (Below w5.heap.size w5 w5.drew) := ⟨bdrew (Below.refl _ _)⟩
      generalize hwd : w5.drew = w1' at *
      clear hwd
      refine inv_at [0, 1, 2, 3, 4, 5, 6, 7, 8] (fun a0_ b a w' => ∃ (gO : Nat) (m7_ : Value), a = putSel a0_ b [(0, 50, .pointer (some ⟨gG, 2, none⟩)), (1, 51, .agg #[.int .i64 g.hang.a, .int .i64 g.hang.b, .int .i64 g.hang.c]), (2, 52, .agg #[.slice q3 g.dl.length m3, .slice va g.dl.length cv]), (3, 53, .pointer (some ⟨gG, 5, none⟩)), (4, 54, .int .i64 g.adv), (5, 55, .int .i64 av), (6, 56, .agg #[.slice none 0 0, .slice none 0 0, .int .i64 g.hang.a, .int .i64 g.hang.b, .int .i64 g.hang.c, .int .i64 av]), (7, 11, m7_)] ∧ (Below w5.heap.size w5 w') ∧ (b 7 = true → b 8 = false → w5.heap.size ≤ gO ∧ Blk w' gO #[.slice none 0 0, .slice none 0 0, .int .i64 0, .int .i64 0, .int .i64 0, .int .i64 0] 51) ∧ (b 8 = true → w5.heap.size ≤ gO ∧ Blk w' gO #[.slice none 0 0, .slice none 0 0, .int .i64 g.hang.a, .int .i64 g.hang.b, .int .i64 g.hang.c, .int .i64 av] 51) ∧ (b 7 = true → (m7_ : Value) = .pointer (some ⟨gO, 0, none⟩))) HT_.out HW_.out (by kernel_rfl) (by kernel_rfl) ?_ ?_ ?_
      ·exact ⟨0, .bool false, by simp only [putSel, Bool.false_eq_true, if_false], HB.out, fun h_ => absurd h_ (by decide), fun h_ => absurd h_ (by decide), fun h_ => absurd h_ (by decide)⟩
      ·skip
       clear HB
       refine steps_cons ?_ ?_
       ·rintro b a w' ⟨gO, m7_, ha, QHB, QNgO, QFgO, QX7_⟩ hb_ hon hoff
        refine ⟨_, rfl, fun K hK => ?_⟩
        have e3 : a.tmps[3]? = some (.pointer (some ⟨gG, 0, none⟩)) := by rw [ha]; exact (putSel_off rfl).trans rfl
        replace ha := aM_ ha
        have HB := aM_ QHB
        refine value_ (w1 := w') (v := .pointer (some ⟨gG, 2, none⟩)) (by rfl) rfl ?_ ?_
        ·go_simp
         (try simp only [i64_w])
         try rfl
        refine hK.out _ _ ⟨gO, m7_, (by rw [ha.out]; exact putSel_upk 0 hb_ rfl rfl rfl), QHB, QNgO, dD_ (hoff 8 rfl), QX7_⟩
       refine steps_cons ?_ ?_
       ·rintro b a w' ⟨gO, m7_, ha, QHB, QNgO, QFgO, QX7_⟩ hb_ hon hoff
        refine ⟨_, rfl, fun K hK => ?_⟩
        have e50 : a.tmps[50]? = some (.pointer (some ⟨gG, 2, none⟩)) := by rw [ha]; exact putSel_on (e := (0, 50, .pointer (some ⟨gG, 2, none⟩))) 0 rfl rfl (hon 0 rfl) rfl
        replace ha := aM_ ha
        have HB := aM_ QHB
        have z2 := pw_cell_below HB.out yG2.out
        have z3 := pw_cell_below HB.out yG3.out
        have z4 := pw_cell_below HB.out yG4.out
        refine value_ (w1 := w') (v := .agg #[.int .i64 g.hang.a, .int .i64 g.hang.b, .int .i64 g.hang.c]) (by rfl) rfl ?_ ?_
        ·go_simp
         (try simp only [i64_w])
         try rfl
        refine hK.out _ _ ⟨gO, m7_, (by rw [ha.out]; exact putSel_upk 1 hb_ rfl rfl rfl), QHB, QNgO, dD_ (hoff 8 rfl), QX7_⟩
       refine steps_cons ?_ ?_
       ·rintro b a w' ⟨gO, m7_, ha, QHB, QNgO, QFgO, QX7_⟩ hb_ hon hoff
        refine ⟨_, rfl, fun K hK => ?_⟩
        have e9 : a.tmps[9]? = some (.pointer (some ⟨gA, 0, none⟩)) := by rw [ha]; exact (putSel_off rfl).trans rfl
        replace ha := aM_ ha
        have HB := aM_ QHB
        have z0 := pw_cell_below HB.out yA0.out
        have z1 := pw_cell_below HB.out yA1.out
        refine value_ (w1 := w') (v := .agg #[.slice q3 g.dl.length m3, .slice va g.dl.length cv]) (by rfl) rfl ?_ ?_
        ·go_simp
         (try simp only [i64_w])
         try rfl
        refine hK.out _ _ ⟨gO, m7_, (by rw [ha.out]; exact putSel_upk 2 hb_ rfl rfl rfl), QHB, QNgO, dD_ (hoff 8 rfl), QX7_⟩
       refine steps_cons ?_ ?_
       ·rintro b a w' ⟨gO, m7_, ha, QHB, QNgO, QFgO, QX7_⟩ hb_ hon hoff
        refine ⟨_, rfl, fun K hK => ?_⟩
        have e3 : a.tmps[3]? = some (.pointer (some ⟨gG, 0, none⟩)) := by rw [ha]; exact (putSel_off rfl).trans rfl
        replace ha := aM_ ha
        have HB := aM_ QHB
        refine value_ (w1 := w') (v := .pointer (some ⟨gG, 5, none⟩)) (by rfl) rfl ?_ ?_
        ·go_simp
         (try simp only [i64_w])
         try rfl
        refine hK.out _ _ ⟨gO, m7_, (by rw [ha.out]; exact putSel_upk 3 hb_ rfl rfl rfl), QHB, QNgO, dD_ (hoff 8 rfl), QX7_⟩
       refine steps_cons ?_ ?_
       ·rintro b a w' ⟨gO, m7_, ha, QHB, QNgO, QFgO, QX7_⟩ hb_ hon hoff
        refine ⟨_, rfl, fun K hK => ?_⟩
        have e53 : a.tmps[53]? = some (.pointer (some ⟨gG, 5, none⟩)) := by rw [ha]; exact putSel_on (e := (3, 53, .pointer (some ⟨gG, 5, none⟩))) 3 rfl rfl (hon 3 rfl) rfl
        replace ha := aM_ ha
        have HB := aM_ QHB
        have z5 := pw_cell_below HB.out yG5.out
        refine value_ (w1 := w') (v := .int .i64 g.adv) (by rfl) rfl ?_ ?_
        ·go_simp
         (try simp only [i64_w])
         try rfl
        refine hK.out _ _ ⟨gO, m7_, (by rw [ha.out]; exact putSel_upk 4 hb_ rfl rfl rfl), QHB, QNgO, dD_ (hoff 8 rfl), QX7_⟩
       refine steps_cons ?_ ?_
       ·rintro b a w' ⟨gO, m7_, ha, QHB, QNgO, QFgO, QX7_⟩ hb_ hon hoff
        refine ⟨_, rfl, fun K hK => ?_⟩
        have e52 : a.tmps[52]? = some (.agg #[.slice q3 g.dl.length m3, .slice va g.dl.length cv]) := by rw [ha]; exact putSel_on (e := (2, 52, .agg #[.slice q3 g.dl.length m3, .slice va g.dl.length cv])) 2 rfl rfl (hon 2 rfl) rfl
        have e54 : a.tmps[54]? = some (.int .i64 g.adv) := by rw [ha]; exact putSel_on (e := (4, 54, .int .i64 g.adv)) 4 rfl rfl (hon 4 rfl) rfl
        replace ha := aM_ ha
        have HB := aM_ QHB
        refine call_ 48 #[.agg #[.slice q3 g.dl.length m3, .slice va g.dl.length cv], .int .i64 g.adv, .func (.func 49) #[] #[]] (by rfl) rfl ?_ ?_
        ·go_simp
        refine (HSUM.out w' HB.out).mono ?_
        rintro e w2' ⟨rfl, hb⟩
        refine ⟨_, rfl, ?_⟩
        refine hK.out _ _ ⟨gO, m7_, (by rw [ha.out]; exact putSel_upk 5 hb_ rfl rfl rfl), bthen' HB.out hb, fun h0_ h1_ => ⟨(QNgO h0_ h1_).1, (QNgO h0_ h1_).2.below hb⟩, dD_ (hoff 8 rfl), QX7_⟩
       refine steps_cons ?_ ?_
       ·rintro b a w' ⟨gO, m7_, ha, QHB, QNgO, QFgO, QX7_⟩ hb_ hon hoff
        refine ⟨_, rfl, fun K hK => ?_⟩
        have e51 : a.tmps[51]? = some (.agg #[.int .i64 g.hang.a, .int .i64 g.hang.b, .int .i64 g.hang.c]) := by rw [ha]; exact putSel_on (e := (1, 51, .agg #[.int .i64 g.hang.a, .int .i64 g.hang.b, .int .i64 g.hang.c])) 1 rfl rfl (hon 1 rfl) rfl
        have e55 : a.tmps[55]? = some (.int .i64 av) := by rw [ha]; exact putSel_on (e := (5, 55, .int .i64 av)) 5 rfl rfl (hon 5 rfl) rfl
        replace ha := aM_ ha
        have HB := aM_ QHB
        refine value_ (w1 := w') (v := .agg #[.slice none 0 0, .slice none 0 0, .int .i64 g.hang.a, .int .i64 g.hang.b, .int .i64 g.hang.c, .int .i64 av]) (by rfl) rfl ?_ ?_
        ·go_simp
         (try simp only [i64_w])
         try rfl
        refine hK.out _ _ ⟨gO, m7_, (by rw [ha.out]; exact putSel_upk 6 hb_ rfl rfl rfl), QHB, QNgO, dD_ (hoff 8 rfl), QX7_⟩
       refine steps_cons ?_ ?_
       ·rintro b a w' ⟨gO, m7_, ha, QHB, QNgO, QFgO, QX7_⟩ hb_ hon hoff
        refine ⟨_, rfl, fun K hK => ?_⟩
        replace ha := aM_ ha
        have HB := aM_ QHB
        refine value_ (w1 := w'.alloc (.cells #[.slice none 0 0, .slice none 0 0, .int .i64 0, .int .i64 0, .int .i64 0, .int .i64 0] 51)) (v := .pointer (some ⟨w'.heap.size, 0, none⟩)) (by rfl) rfl ?_ ?_
        ·go_simp
        refine hK.out _ _ ⟨w'.heap.size, (.pointer (some ⟨w'.heap.size, 0, none⟩)), (by rw [ha.out]; exact putSel_upk 7 hb_ rfl rfl rfl), HB.out.trans ((below_alloc (Below.refl _ w') _).mono HB.out.size), fun _ _ => ⟨HB.out.size, Blk.new w' _ _ rfl⟩, dD_ (hoff 8 rfl), fun _ => rfl⟩
       refine steps_cons ?_ ?_
       ·rintro b a w' ⟨gO, m7_, ha, QHB, QNgO, QFgO, QX7_⟩ hb_ hon hoff
        refine ⟨_, rfl, fun K hK => ?_⟩
        have e11 : a.tmps[11]? = some (m7_) := by rw [ha]; exact putSel_on (e := (7, 11, m7_)) 7 rfl rfl (hon 7 rfl) rfl
        rw [QX7_ (hon 7 rfl)] at e11
        have e56 : a.tmps[56]? = some (.agg #[.slice none 0 0, .slice none 0 0, .int .i64 g.hang.a, .int .i64 g.hang.b, .int .i64 g.hang.c, .int .i64 av]) := by rw [ha]; exact putSel_on (e := (6, 56, .agg #[.slice none 0 0, .slice none 0 0, .int .i64 g.hang.a, .int .i64 g.hang.b, .int .i64 g.hang.c, .int .i64 av])) 6 rfl rfl (hon 6 rfl) rfl
        replace ha := aM_ ha
        have HB := aM_ QHB
        have NgO := aM_ (QNgO (hon 7 rfl) hb_)
        have c0 := NgO.out.2.cell 0
        have c1 := NgO.out.2.cell 1
        have c2 := NgO.out.2.cell 2
        have c3 := NgO.out.2.cell 3
        have c4 := NgO.out.2.cell 4
        have c5 := NgO.out.2.cell 5
        simp only [gA_, gZ_, gS_] at c0 c1 c2 c3 c4 c5
        have f0 := NgO.out.2.frozen 0
        have f1 := NgO.out.2.frozen 1
        have f2 := NgO.out.2.frozen 2
        have f3 := NgO.out.2.frozen 3
        have f4 := NgO.out.2.frozen 4
        have f5 := NgO.out.2.frozen 5
        refine skip_ (w1 := ((((((w'.setCell ⟨gO, 0, none⟩ (.slice none 0 0)).setCell ⟨gO, 1, none⟩ (.slice none 0 0)).setCell ⟨gO, 2, none⟩ (.int .i64 g.hang.a)).setCell ⟨gO, 3, none⟩ (.int .i64 g.hang.b)).setCell ⟨gO, 4, none⟩ (.int .i64 g.hang.c)).setCell ⟨gO, 5, none⟩ (.int .i64 av))) (by rfl) rfl ?_ ?_
        ·go_simp
        refine hK.out _ _ ⟨gO, m7_, (by rw [ha.out]; exact putSel_none (v := undef) rfl), (bset (bset (bset (bset (bset (bset HB.out NgO.out.1 0 _) NgO.out.1 1 _) NgO.out.1 2 _) NgO.out.1 3 _) NgO.out.1 4 _) NgO.out.1 5 _), fun _ => dE_ (up_self b 8), fun _ => ⟨NgO.out.1, ((((((NgO.out.2.put 0 _ rfl).put 1 _ rfl).put 2 _ rfl).put 3 _ rfl).put 4 _ rfl).put 5 _ rfl)⟩, QX7_⟩
       exact steps_nil
      ·rintro b a w' hall ⟨gO, m7_, ha, QHB, QNgO, QFgO, QX7_⟩
       clear HB
       have hb0_ := hall 0 (by kernel_rfl)
       have hb1_ := hall 1 (by kernel_rfl)
       have hb2_ := hall 2 (by kernel_rfl)
       have hb3_ := hall 3 (by kernel_rfl)
       have hb4_ := hall 4 (by kernel_rfl)
       have hb5_ := hall 5 (by kernel_rfl)
       have hb6_ := hall 6 (by kernel_rfl)
       have hb7_ := hall 7 (by kernel_rfl)
       have hb8_ := hall 8 (by kernel_rfl)
       subst ha
       obtain rfl := QX7_ hb7_
       simp only [putSel, hb0_, hb1_, hb2_, hb3_, hb4_, hb5_, hb6_, hb7_, hb8_, if_true, Act.put, List.setIfInBounds_toArray, List.set_cons_zero, List.set_cons_succ]
       have HB := aM_ QHB
       clear QHB
       clear QNgO
       have FgO := aM_ (QFgO hb8_)
       clear QFgO
       clear hall hb0_ hb1_ hb2_ hb3_ hb4_ hb5_ hb6_ hb7_ hb8_
       generalize w' = w6 at *
       have HX6 := lH_ (bthen' HX5.out HB.out)
       have LO := lH_ FgO.out.1
       have BgO := lH_ FgO.out.2
       have A6 := lH_ (A5.out.below HB.out)
       have VR6 := lH_ (Kd.R_below VR5.out HB.out)
       have G6 := lH_ (G5.out.below HB.out)
       have D6 := lH_ (D5.out.below HB.out)
       have P6 := lH_ (BgP.out.below HB.out)
       try clear QX5_
       try clear QX6_
       try clear QX7_
       clear FgO HB
       have c0 := G6.out.cell 0
       simp only [gA_, gZ_, gS_] at c0
       go_upto_region 13 with fail
       have HP_ := lH_ (show gP ≠ gO by have := BgP.out.lt; have := LO.out; omega)
       have HOw := lH_ (show w.heap.size ≤ gO by have := HX5.out.size; have := LO.out; omega)
       have GLT := lH_ BgO.out.lt
       have HSHW := lH_ (fun W_ (hs_ : Sc w6.heap.size gO w6 W_) => (show Kd.C kI2 W_ va g.dl.length sh by have h := (Kd.R_reads' (Sc.R VR6.out BgO.out (by decide) hs_)).2.2; rw [HSL.out] at h; exact h))
       refine at_loop1 (R := (rs.length : Int)) g sh va cv q1 m1 q3 m3 w w6 gP gO _ _ _ _ HG.out.ct HG.out.dl HSHW.out HSL.out HOK.out HFW.out.2.2.1 HX6.out HOw.out P6.out HP_.out _ ⟨BgO.out, Kd.R_nil _ _ _ _ _, Sc.refl _ _ _, Marks.nil _ _⟩ _ _ _ _ _ _ _ _ _ _ _ _ _ _ _ _ _ _ _ _ _ _ _ _ _ _ _ _ _ _ _ _ _ _ _ _ _ _ _ _ _ _ _ _ _ _ _ _ _ _ _ _ _ _ _ _ _ _ _ _ _ _ _ _ _ _ _ _ _ _ _ _ _ _ _ _ _ _ _ _ _ _ _ _ _ _ _ _ _ _ _ _ _ _ _ _ _ _ _ _ _ _ _ _ _ _ _ _ _ _ _ _ _ _ _ _ _ _ _ _ _ _ _ _ _ _ _ _ _ _ _ _ _ _ _ _ _ _ _ _ _ ?_
       rintro Ds vc w7 y14 y15 y16 y17 y61 y62 y63 y64 y65 y66 y67 y68 y69 y70 y71 y72 y73 y74 y75 y76 y77 y78 y79 y80 y81 y82 y83 y84 y85 y86 y87 y88 y89 y90 y91 y92 y93 y94 y95 hI1
       clear c0
       have HI1 := lH_ hI1
       clear hI1
       have G7 := lH_ (HI1.out.keep.blk G6.out G6.out.lt (show gG ≠ gO by have := EgG.out; have := HOw.out; have := EgD.out; have := LO.out; have := HX5.out.size; have := G5.out.lt; omega))
       have c1_ := G7.out.cell 1
       simp only [gA_, gZ_, gS_] at c1_
       go_upto_region 25 with fail
       have HXW := lH_ (HX6.out.trans (HI1.out.keep.below.mono HOw.out))
       have P7 := lH_ (HI1.out.keep.blk P6.out P6.out.lt HP_.out)
       have hs7 := HI1.out.keep.size
       refine at_loop2 (R := (rs.length : Int)) g sh va cv q2 m2 q3 m3 w w7 gP gO (ptsN g.ct) _ _ _ _ _ _ HG.out.an HG.out.dl (fun W_ hs_ => HSHW.out W_ (HI1.out.keep.trans (hs_.mono hs7))) HSL.out HOK.out rfl HFW.out.2.2.1 HXW.out HOw.out P7.out HP_.out HI1.out.box _ _ _ _ _ _ _ _ _ _ _ _ _ _ _ _ _ _ _ _ _ _ _ _ _ _ _ _ _ _ _ _ _ _ _ _ _ _ _ _ _ _ _ _ _ _ _ _ _ _ _ _ _ _ _ _ _ _ _ _ _ _ _ _ _ _ _ _ _ _ _ _ _ _ _ _ _ _ _ _ _ _ _ _ _ _ _ _ _ _ _ _ _ _ _ _ _ _ _ _ _ _ _ _ _ _ _ _ _ _ _ _ _ _ _ _ _ _ _ _ _ _ _ _ _ _ _ _ _ _ _ _ _ _ _ _ _ _ _ _ _ ?_
       rintro va2 w8 x18 x19 x100 x101 x102 x103 x104 x105 x106 x107 x108 x109 x110 x111 x112 x113 x114 x115 x116 x117 x118 x119 x120 x121 x122 x123 x124 hI2
       clear c1_ hs7
       have HI2 := lH_ hI2
       clear hI2
       have HSC := lH_ (HI1.out.keep.trans (HI2.out.keep.mono HI1.out.keep.size))
       have NGO := lH_ (show gG ≠ gO by have := G5.out.lt; have := LO.out; omega)
       have G8 := lH_ (HSC.out.blk G6.out G6.out.lt NGO.out)
       have P8 := lH_ (HSC.out.blk P6.out P6.out.lt HP_.out)
       have NDO := lH_ (show gD ≠ gO by have := D5.out.lt; have := LO.out; omega)
       have D8 := lH_ (HSC.out.blk D6.out D6.out.lt NDO.out)
       have HX8 := lH_ (HX6.out.trans (HSC.out.below.mono HOw.out))
       have HM8 := lH_ (HI1.out.marks.kept (w' := w8) (fun D_ hD_ hl_ => HI2.out.keep.same D_ hl_ (by rintro rfl; have h1 := HI1.out.box; have h2 := (HI1.out.marks.2 _ hD_).2; unfold Blk at h1; rw [h2] at h1; cases h1)))
       have HV8 := lH_ (Sc.R HI1.out.row HI1.out.box (by decide) HI2.out.keep)
       have HIX := lH_ (show ptsN g.ct + g.an.length < g.pts by unfold Gl.pts; omega)
       have HNP := lH_ HOK.out.np
       have HHG := lH_ HOK.out.hang
       obtain ⟨Ac, cc_, rfl⟩ := Kd.R_slice HI1.out.row
       obtain ⟨Aa, ca_, rfl⟩ := Kd.R_slice HI2.out.row
       have hwr := wr64 (ptsN g.ct) g.an.length (by have := HIX.out; have := HNP.out; omega)
       have h4 := Kd.C_below HG.out.dl HX8.out
       have h5 := HSHW.out w8 HSC.out
       rw [← HSL.out] at h5
       have h6 : ∀ d ∈ g.dl, ptsN g.ct + g.an.length < d.moves.length := fun d hd => by rw [(HOK.out.dl d hd).2.2]; exact HIX.out
       have h7 := HHG.out
       have HPL := lH_ (place_any (ptsN g.ct + g.an.length) g.hang.b g.hang.c g.dl q3 m3 sh va cv w8 (by omega) (by omega) HFW.out.2.2.1 HSL.out h4 h5 h6)
       rw [HSL.out, Int.natCast_add] at HPL
       have HHX : Hid (atX g rs ns = sumB (fun d => (d.moves.getD (ptsN g.ct + g.an.length) zI2).a) g.hang.b g.dl sh) := lH_ (by unfold atX; rw [HSH.out])
       have HHY : Hid (atY g rs ns = sumB (fun d => (d.moves.getD (ptsN g.ct + g.an.length) zI2).b) g.hang.c g.dl sh) := lH_ (by unfold atY; rw [HSH.out])
       obtain ⟨sx, hsx⟩ : ∃ s, sumB (fun d => (d.moves.getD (ptsN g.ct + g.an.length) zI2).a) g.hang.b g.dl sh = s := ⟨_, rfl⟩
       obtain ⟨sy, hsy⟩ : ∃ s, sumB (fun d => (d.moves.getD (ptsN g.ct + g.an.length) zI2).b) g.hang.c g.dl sh = s := ⟨_, rfl⟩
       rw [hsx] at HPL HHX
       rw [hsy] at HPL HHY
       clear h4 h5 h6 h7 hsx hsy
       have c1_ := G8.out.cell 1
       have c3_ := G8.out.cell 3
       have c4_ := G8.out.cell 4
       have cp_ := P8.out.cell 0
       have hgm : g.an.length ≤ 9223372036854775807 := by have := HOK.out.na; omega
       simp only [gA_, gZ_, gS_] at c1_ c3_ c4_ cp_
       go_wp2_with fail
       refine HPL.out.mono ?_
       rintro e w9 ⟨rfl, hb⟩
       have BO9 := lH_ (HI2.out.box.below hb)
       have D9 := lH_ (D8.out.below hb)
       have HX9 := lH_ (HX8.out.trans (hb.mono HX8.out.size))
       have HM9 := lH_ (HM8.out.below hb)
       have HV9 := lH_ (Kd.R_below HV8.out hb)
       have HA9 := lH_ (Kd.R_below HI2.out.row hb)
       clear hb c1_ c3_ c4_ cp_ HPL
       have o3_ := BO9.out.cell 3
       have o4_ := BO9.out.cell 4
       have f3_ := BO9.out.frozen 3
       have f4_ := BO9.out.frozen 4
       simp only [gA_, gZ_, gS_] at o3_ o4_
       go_upto_region 31 with fail
       have BOA : Hid (Blk _ gO #[.slice Ac (plCs g.dl sh g.ct g.ct.length).length cc_, .slice Aa (plAs g.dl sh (ptsN g.ct) g.an g.an.length).length ca_, .int .i64 g.hang.a, .int .i64 sx, .int .i64 sy, .int .i64 av] 51) := lH_ ((BO9.out.put 3 (.int .i64 sx) rfl).put 4 (.int .i64 sy) rfl)
       have DA := lH_ ((D9.out.far NDO.out 3 (.int .i64 sx)).far NDO.out 4 (.int .i64 sy))
       have HXA := lH_ (bset (bset HX9.out HOw.out 3 (.int .i64 sx)) HOw.out 4 (.int .i64 sy))
       have HMA := lH_ ((HM9.out.setCell ⟨gO, 3, none⟩ (.int .i64 sx) ⟨_, BO9.out, rfl⟩).setCell ⟨gO, 4, none⟩ (.int .i64 sy) ⟨_, BO9.out.put 3 (.int .i64 sx) rfl, rfl⟩)
       have HVA := lH_ (Kd.R_lower (Kd.R_set (Kd.R_set HV9.out BO9.out (by decide) 3 (.int .i64 sx)) (BO9.out.set 3 (.int .i64 sx)) (by decide) 4 (.int .i64 sy)) HX6.out.size)
       have HAA := lH_ (Kd.R_lower (Kd.R_set (Kd.R_set HA9.out BO9.out (by decide) 3 (.int .i64 sx)) (BO9.out.set 3 (.int .i64 sx)) (by decide) 4 (.int .i64 sy)) HXW.out.size)
       clear o3_ o4_ f3_ f4_
       generalize World.setCell (World.setCell _ _ _) _ _ = wA at *
       have HCT := lH_ (show atC g rs ns = plCs g.dl sh g.ct g.ct.length by unfold atC; rw [HSH.out])
       have HAT := lH_ (show atA g rs ns = plAs g.dl sh (ptsN g.ct) g.an g.an.length by unfold atA; rw [HSH.out])
       have HVT := lH_ (show atV g rs ns = av by unfold atV; rw [HSH.out]; exact HAV.out)
       have HL1 := lH_ (show (plCs g.dl sh g.ct g.ct.length).length = g.ct.length by simp [plCs])
       have HL2 := lH_ (show (plAs g.dl sh (ptsN g.ct) g.an g.an.length).length = g.an.length by simp [plAs])
       rw [HL1.out] at HVA BOA
       rw [HL2.out] at HAA BOA
       rw [← HCT.out] at HVA
       rw [← HAT.out] at HAA
       have o0 := BOA.out.cell 0
       have o1 := BOA.out.cell 1
       have o2 := BOA.out.cell 2
       have o3 := BOA.out.cell 3
       have o4 := BOA.out.cell 4
       have o5 := BOA.out.cell 5
       have z0 := DA.out.cell 0
       have z1 := DA.out.cell 1
       have z2 := DA.out.cell 2
       have z3 := DA.out.cell 3
       have z4 := DA.out.cell 4
       have z5 := DA.out.cell 5
       have f0 := DA.out.frozen 0
       have f1 := DA.out.frozen 1
       have f2 := DA.out.frozen 2
       have f3 := DA.out.frozen 3
       have f4 := DA.out.frozen 4
       have f5 := DA.out.frozen 5
       simp only [gA_, gZ_, gS_] at o0 z0 o1 z1 o2 z2 o3 z3 o4 z4 o5 z5
       go_wp2_with fail
       have HND := lH_ (show gD ∉ Ds from fun h_ => by have h1 := DA.out; have h2 := (HMA.out.2 _ h_).2; unfold Blk at h1; rw [h2] at h1; cases h1)
       have HM6_ := lH_ ((((((HMA.out.setCell ⟨gD, 0, none⟩ (.slice Ac g.ct.length cc_) ⟨_, DA.out, rfl⟩).setCell ⟨gD, 1, none⟩ (.slice Aa g.an.length ca_) ⟨_, (DA.out.set 0 (.slice Ac g.ct.length cc_)), rfl⟩).setCell ⟨gD, 2, none⟩ (.int .i64 g.hang.a) ⟨_, ((DA.out.set 0 (.slice Ac g.ct.length cc_)).set 1 (.slice Aa g.an.length ca_)), rfl⟩).setCell ⟨gD, 3, none⟩ (.int .i64 sx) ⟨_, (((DA.out.set 0 (.slice Ac g.ct.length cc_)).set 1 (.slice Aa g.an.length ca_)).set 2 (.int .i64 g.hang.a)), rfl⟩).setCell ⟨gD, 4, none⟩ (.int .i64 sy) ⟨_, ((((DA.out.set 0 (.slice Ac g.ct.length cc_)).set 1 (.slice Aa g.an.length ca_)).set 2 (.int .i64 g.hang.a)).set 3 (.int .i64 sx)), rfl⟩).setCell ⟨gD, 5, none⟩ (.int .i64 av) ⟨_, (((((DA.out.set 0 (.slice Ac g.ct.length cc_)).set 1 (.slice Aa g.an.length ca_)).set 2 (.int .i64 g.hang.a)).set 3 (.int .i64 sx)).set 4 (.int .i64 sy)), rfl⟩)
       exact at_leaves ((((((DA.out.put 0 (.slice Ac g.ct.length cc_) rfl).put 1 (.slice Aa g.an.length ca_) rfl).put 2 (.int .i64 g.hang.a) rfl).put 3 (.int .i64 sx) rfl).put 4 (.int .i64 sy) rfl).put 5 (.int .i64 av) rfl) Ds ((((((HMA.out.setCell ⟨gD, 0, none⟩ (.slice Ac g.ct.length cc_) ⟨_, DA.out, rfl⟩).setCell ⟨gD, 1, none⟩ (.slice Aa g.an.length ca_) ⟨_, (DA.out.set 0 (.slice Ac g.ct.length cc_)), rfl⟩).setCell ⟨gD, 2, none⟩ (.int .i64 g.hang.a) ⟨_, ((DA.out.set 0 (.slice Ac g.ct.length cc_)).set 1 (.slice Aa g.an.length ca_)), rfl⟩).setCell ⟨gD, 3, none⟩ (.int .i64 sx) ⟨_, (((DA.out.set 0 (.slice Ac g.ct.length cc_)).set 1 (.slice Aa g.an.length ca_)).set 2 (.int .i64 g.hang.a)), rfl⟩).setCell ⟨gD, 4, none⟩ (.int .i64 sy) ⟨_, ((((DA.out.set 0 (.slice Ac g.ct.length cc_)).set 1 (.slice Aa g.an.length ca_)).set 2 (.int .i64 g.hang.a)).set 3 (.int .i64 sx)), rfl⟩).setCell ⟨gD, 5, none⟩ (.int .i64 av) ⟨_, (((((DA.out.set 0 (.slice Ac g.ct.length cc_)).set 1 (.slice Aa g.an.length ca_)).set 2 (.int .i64 g.hang.a)).set 3 (.int .i64 sx)).set 4 (.int .i64 sy)), rfl⟩) HND.out _ rfl rfl (fun w2_ hb2_ hs2_ => ⟨(bset (bset (bset (bset (bset (bset HXA.out LD.out 0 (.slice Ac g.ct.length cc_)) LD.out 1 (.slice Aa g.an.length ca_)) LD.out 2 (.int .i64 g.hang.a)) LD.out 3 (.int .i64 sx)) LD.out 4 (.int .i64 sy)) LD.out 5 (.int .i64 av)).trans hb2_, .inr ⟨HE.out, .slice Ac g.ct.length cc_, .slice Aa g.an.length ca_, by rw [HHX.out, HHY.out, HVT.out], R_leaves (Kd.R_set (Kd.R_set (Kd.R_set (Kd.R_set (Kd.R_set (Kd.R_set HVA.out DA.out (by decide) 0 (.slice Ac g.ct.length cc_)) (DA.out.set 0 (.slice Ac g.ct.length cc_)) (by decide) 1 (.slice Aa g.an.length ca_)) ((DA.out.set 0 (.slice Ac g.ct.length cc_)).set 1 (.slice Aa g.an.length ca_)) (by decide) 2 (.int .i64 g.hang.a)) (((DA.out.set 0 (.slice Ac g.ct.length cc_)).set 1 (.slice Aa g.an.length ca_)).set 2 (.int .i64 g.hang.a)) (by decide) 3 (.int .i64 sx)) ((((DA.out.set 0 (.slice Ac g.ct.length cc_)).set 1 (.slice Aa g.an.length ca_)).set 2 (.int .i64 g.hang.a)).set 3 (.int .i64 sx)) (by decide) 4 (.int .i64 sy)) (((((DA.out.set 0 (.slice Ac g.ct.length cc_)).set 1 (.slice Aa g.an.length ca_)).set 2 (.int .i64 g.hang.a)).set 3 (.int .i64 sx)).set 4 (.int .i64 sy)) (by decide) 5 (.int .i64 av)) HM6_.out hs2_, R_leaves (Kd.R_set (Kd.R_set (Kd.R_set (Kd.R_set (Kd.R_set (Kd.R_set HAA.out DA.out (by decide) 0 (.slice Ac g.ct.length cc_)) (DA.out.set 0 (.slice Ac g.ct.length cc_)) (by decide) 1 (.slice Aa g.an.length ca_)) ((DA.out.set 0 (.slice Ac g.ct.length cc_)).set 1 (.slice Aa g.an.length ca_)) (by decide) 2 (.int .i64 g.hang.a)) (((DA.out.set 0 (.slice Ac g.ct.length cc_)).set 1 (.slice Aa g.an.length ca_)).set 2 (.int .i64 g.hang.a)) (by decide) 3 (.int .i64 sx)) ((((DA.out.set 0 (.slice Ac g.ct.length cc_)).set 1 (.slice Aa g.an.length ca_)).set 2 (.int .i64 g.hang.a)).set 3 (.int .i64 sx)) (by decide) 4 (.int .i64 sy)) (((((DA.out.set 0 (.slice Ac g.ct.length cc_)).set 1 (.slice Aa g.an.length ca_)).set 2 (.int .i64 g.hang.a)).set 3 (.int .i64 sx)).set 4 (.int .i64 sy)) (by decide) 5 (.int .i64 av)) HM6_.out hs2_⟩⟩)
    ·have HF : Hid (atE g rs ns = 11) := lH_ (by rw [HE.out, HE1.out]; exact if_pos HQ3.out)
     have z0 := BgD.out.cell 0
     have z1 := BgD.out.cell 1
     have z2 := BgD.out.cell 2
     have z3 := BgD.out.cell 3
     have z4 := BgD.out.cell 4
     have z5 := BgD.out.cell 5
     simp only [gA_, gZ_, gS_] at z0 z1 z2 z3 z4 z5
     have f0 := BgD.out.frozen 0
     have f1 := BgD.out.frozen 1
     have f2 := BgD.out.frozen 2
     have f3 := BgD.out.frozen 3
     have f4 := BgD.out.frozen 4
     have f5 := BgD.out.frozen 5
     go_wp2_with fail
     exact at_leaves ((((((BgD.out.put 0 _ rfl).put 1 _ rfl).put 2 _ rfl).put 3 _ rfl).put 4 _ rfl).put 5 _ rfl) [] (Marks.nil w.heap.size _) (by simp) _ rfl rfl (fun w2_ hb2_ _ => ⟨(bset (bset (bset (bset (bset (bset HX.out LD.out 0 _) LD.out 1 _) LD.out 2 _) LD.out 3 _) LD.out 4 _) LD.out 5 _).trans hb2_, .inl ⟨by rw [HF.out]; decide, by rw [HF.out]⟩⟩)
   ·have HF : Hid (atE g rs ns = 10) := lH_ (by rw [HE.out, HE2.out]; exact if_pos (.inr HQ2.out))
    have z0 := BgD.out.cell 0
    have z1 := BgD.out.cell 1
    have z2 := BgD.out.cell 2
    have z3 := BgD.out.cell 3
    have z4 := BgD.out.cell 4
    have z5 := BgD.out.cell 5
    simp only [gA_, gZ_, gS_] at z0 z1 z2 z3 z4 z5
    have f0 := BgD.out.frozen 0
    have f1 := BgD.out.frozen 1
    have f2 := BgD.out.frozen 2
    have f3 := BgD.out.frozen 3
    have f4 := BgD.out.frozen 4
    have f5 := BgD.out.frozen 5
    go_wp2_with fail
    exact at_leaves ((((((BgD.out.put 0 _ rfl).put 1 _ rfl).put 2 _ rfl).put 3 _ rfl).put 4 _ rfl).put 5 _ rfl) [] (Marks.nil w.heap.size _) (by simp) _ rfl rfl (fun w2_ hb2_ _ => ⟨(bset (bset (bset (bset (bset (bset HX.out LD.out 0 _) LD.out 1 _) LD.out 2 _) LD.out 3 _) LD.out 4 _) LD.out 5 _).trans hb2_, .inl ⟨by rw [HF.out]; decide, by rw [HF.out]⟩⟩)
 ·have HF : Hid (atE g rs ns = q) := lH_ (HE.out.trans (if_neg hq0))
  have HN := lH_ hq0
  have dq : (q != 0) = true := by simpa using hq0
  clear hq0
  have z0 := BgD.out.cell 0
  have z1 := BgD.out.cell 1
  have z2 := BgD.out.cell 2
  have z3 := BgD.out.cell 3
  have z4 := BgD.out.cell 4
  have z5 := BgD.out.cell 5
  simp only [gA_, gZ_, gS_] at z0 z1 z2 z3 z4 z5
  have f0 := BgD.out.frozen 0
  have f1 := BgD.out.frozen 1
  have f2 := BgD.out.frozen 2
  have f3 := BgD.out.frozen 3
  have f4 := BgD.out.frozen 4
  have f5 := BgD.out.frozen 5
  go_wp2_with fail
  exact at_leaves ((((((BgD.out.put 0 _ rfl).put 1 _ rfl).put 2 _ rfl).put 3 _ rfl).put 4 _ rfl).put 5 _ rfl) [] (Marks.nil w.heap.size _) (by simp) _ rfl rfl (fun w2_ hb2_ _ => ⟨(bset (bset (bset (bset (bset (bset HX.out LD.out 0 _) LD.out 1 _) LD.out 2 _) LD.out 3 _) LD.out 4 _) LD.out 5 _).trans hb2_, .inl ⟨by rw [HF.out]; exact HN.out, by rw [HF.out]⟩⟩)
end Go.Proofs.Ythpccdhmppbkfaa
/- slices.Equal. -/
namespace Go.Proofs.Ythpccdhmppbkfaa
open Go.RowKit Go.Shelf Go.Proofs.YthpccdhmppbkfaaW.PrintWords Go.Proofs.YthpccdhmppbkfaaW.PrintLast Go.Proofs.YthpccdhmppbkfaaW.PrintMore
theorem eq_take_succ {α : Type} [DecidableEq α] (l m : List α) (z : α) (k : Nat) (h1 : k < l.length) (h2 : k < m.length) (h : l.take k = m.take k) (he : l.getD k z = m.getD k z) : l.take (k + 1) = m.take (k + 1) := by
 rw [take_at l k h1 z, take_at m k h2 z, h, he]
theorem ne_getD {α : Type} {l m : List α} {z : α} {k : Nat} (h : l.getD k z ≠ m.getD k z) : l ≠ m := fun e => h (by rw [e])
theorem eqP_any (l m : List Pt) (A : Option Addr) (c : Nat) (B : Option Addr) (d : Nat) (w : World) (hC : Kd.C kPt w A l.length l) (hD : Kd.C kPt w B m.length m) : Calls Try.prog 29 #[.slice A l.length c, .slice B m.length d] w fun e w' => e = .returned (.bool (decide (l = m))) ∧ Below w.heap.size w w' := by
 have HC := lH_ hC
 have HD := lH_ hD
 have hml : l.length ≤ 9223372036854775807 := hC.2.1
 clear hC hD
 by_cases hlen : l.length = m.length
 case neg =>
  have HE : Hid (decide (l = m) = false) := lH_ (decide_eq_false (fun e => hlen (by rw [e])))
  have d0 : ((l.length : Int) != (m.length : Int)) = true := by simp; omega
  go_enter Try.func29, Try.ntmps29
  clear hlen
  go_wp2_with fail
  go_ret
  exact ⟨ret_bool HE.out.symm, Below.refl _ _⟩
 have d0 : ((l.length : Int) != (m.length : Int)) = false := by simp; omega
 have HLN := lH_ hlen
 clear hlen
 go_enter Try.func29, Try.ntmps29
 go_wp2_with fail
 go_loopw [13] (fun i wr => ∃ k : Nat, i = .int .i64 k ∧ k ≤ l.length ∧ Hid (l.take k = m.take k) ∧ Hid (Below w.heap.size w wr)) (fun i _ => l.length - (intOf i).toNat)
 case atStart => exact ⟨0, rfl, Nat.zero_le _, lH_ rfl, lH_ (Below.refl _ _)⟩
 case round =>
  obtain ⟨k, rfl, hk, HT, HBr⟩ := hrel
  by_cases hlt : k < l.length
  ·have d1 : decide (k < l.length) = true := decide_eq_true hlt
   obtain ⟨ad, c0, c1, c2, rfl, hK, p0, p1, p2⟩ := el3 (d := kPt) rfl (Kd.C_below HC.out HBr.out) zPt k hlt
   have hk2 := kPt_open hK
   simp only [List.cons.injEq, and_true] at hk2
   obtain ⟨rfl, rfl, rfl⟩ := hk2
   have hlt2 : k < m.length := by rw [← HLN.out]; exact hlt
   obtain ⟨bd, c0, c1, c2, rfl, hK2, q0, q1, q2⟩ := el3 (d := kPt) rfl (Kd.C_below HD.out HBr.out) zPt k hlt2
   have hk2 := kPt_open hK2
   simp only [List.cons.injEq, and_true] at hk2
   obtain ⟨rfl, rfl, rfl⟩ := hk2
   have HY := lH_ (fun h => eq_take_succ l m zPt k hlt hlt2 HT.out h)
   have HN := lH_ (fun h => decide_eq_false (@ne_getD _ l m zPt k h))
   generalize l.getD k zPt = a at *
   generalize m.getD k zPt = b at *
   obtain ⟨x0, x1, x2⟩ := a
   obtain ⟨y0, y1, y2⟩ := b
   dsimp only at p0 p1 p2 q0 q1 q2
   have b0 : (0 : Int) ≤ (k : Int) := by omega
   have b1 : (k : Int) < (l.length : Int) := by omega
   have b2 : (k : Int) < (m.length : Int) := by omega
   clear hK hK2 HT hlt2
   go_upto_region 6 with fail
   by_cases e0 : x0 = y0
   case neg =>
    have f0 : (x0 == y0) = false := by simpa using e0
    have HE := lH_ (HN.out (fun h => e0 (by injection h)))
    clear e0
    go_quiet (fail)
    have HB3 := lH_ (bdrewN HBr.out nq)
    generalize wr.drewN nq = w3 at *
    go_wp2_with fail
    go_ret
    exact ⟨ret_bool HE.out.symm, HB3.out⟩
   have f0 : (x0 == y0) = true := by simpa using e0
   by_cases e1 : x1 = y1
   case neg =>
    have f1 : (x1 == y1) = false := by simpa using e1
    have HE := lH_ (HN.out (fun h => e1 (by injection h)))
    clear e1
    go_quiet (fail)
    have HB3 := lH_ (bdrewN HBr.out nq)
    generalize wr.drewN nq = w3 at *
    go_wp2_with fail
    go_ret
    exact ⟨ret_bool HE.out.symm, HB3.out⟩
   have f1 : (x1 == y1) = true := by simpa using e1
   by_cases e2 : x2 = y2
   case neg =>
    have f2 : (x2 == y2) = false := by simpa using e2
    have HE := lH_ (HN.out (fun h => e2 (by injection h)))
    clear e2
    go_quiet (fail)
    have HB3 := lH_ (bdrewN HBr.out nq)
    generalize wr.drewN nq = w3 at *
    go_wp2_with fail
    go_ret
    exact ⟨ret_bool HE.out.symm, HB3.out⟩
   have f2 : (x2 == y2) = true := by simpa using e2
   have HE := lH_ (HY.out (by rw [e0, e1, e2]))
   clear e0 e1 e2
   go_quiet (fail)
   have HB3 := lH_ (bdrewN HBr.out nq)
   generalize wr.drewN nq = w3 at *
   go_wp2_with fail
   exact ⟨⟨k + 1, by go_num, by omega, HE, HB3⟩, by simp [intOf]; omega⟩
  ·have d1 : decide (k < l.length) = false := decide_eq_false hlt
   have HE : Hid (decide (l = m) = true) := lH_ (decide_eq_true (by have h := HT.out; rwa [List.take_of_length_le (by omega), List.take_of_length_le (by have := HLN.out; omega)] at h))
   clear hlt
   go_wp2_with fail
   go_ret
   exact ⟨ret_bool HE.out.symm, HBr.out⟩
theorem eqA_any (l m : List I3) (A : Option Addr) (c : Nat) (B : Option Addr) (d : Nat) (w : World) (hC : Kd.C kI3 w A l.length l) (hD : Kd.C kI3 w B m.length m) : Calls Try.prog 30 #[.slice A l.length c, .slice B m.length d] w fun e w' => e = .returned (.bool (decide (l = m))) ∧ Below w.heap.size w w' := by
 have HC := lH_ hC
 have HD := lH_ hD
 have hml : l.length ≤ 9223372036854775807 := hC.2.1
 clear hC hD
 by_cases hlen : l.length = m.length
 case neg =>
  have HE : Hid (decide (l = m) = false) := lH_ (decide_eq_false (fun e => hlen (by rw [e])))
  have d0 : ((l.length : Int) != (m.length : Int)) = true := by simp; omega
  go_enter Try.func30, Try.ntmps30
  clear hlen
  go_wp2_with fail
  go_ret
  exact ⟨ret_bool HE.out.symm, Below.refl _ _⟩
 have d0 : ((l.length : Int) != (m.length : Int)) = false := by simp; omega
 have HLN := lH_ hlen
 clear hlen
 go_enter Try.func30, Try.ntmps30
 go_wp2_with fail
 go_loopw [13] (fun i wr => ∃ k : Nat, i = .int .i64 k ∧ k ≤ l.length ∧ Hid (l.take k = m.take k) ∧ Hid (Below w.heap.size w wr)) (fun i _ => l.length - (intOf i).toNat)
 case atStart => exact ⟨0, rfl, Nat.zero_le _, lH_ rfl, lH_ (Below.refl _ _)⟩
 case round =>
  obtain ⟨k, rfl, hk, HT, HBr⟩ := hrel
  by_cases hlt : k < l.length
  ·have d1 : decide (k < l.length) = true := decide_eq_true hlt
   obtain ⟨ad, c0, c1, c2, rfl, hK, p0, p1, p2⟩ := el3 (d := kI3) rfl (Kd.C_below HC.out HBr.out) zI3 k hlt
   have hk2 := kI3_open hK
   simp only [List.cons.injEq, and_true] at hk2
   obtain ⟨rfl, rfl, rfl⟩ := hk2
   have hlt2 : k < m.length := by rw [← HLN.out]; exact hlt
   obtain ⟨bd, c0, c1, c2, rfl, hK2, q0, q1, q2⟩ := el3 (d := kI3) rfl (Kd.C_below HD.out HBr.out) zI3 k hlt2
   have hk2 := kI3_open hK2
   simp only [List.cons.injEq, and_true] at hk2
   obtain ⟨rfl, rfl, rfl⟩ := hk2
   have HY := lH_ (fun h => eq_take_succ l m zI3 k hlt hlt2 HT.out h)
   have HN := lH_ (fun h => decide_eq_false (@ne_getD _ l m zI3 k h))
   generalize l.getD k zI3 = a at *
   generalize m.getD k zI3 = b at *
   obtain ⟨x0, x1, x2⟩ := a
   obtain ⟨y0, y1, y2⟩ := b
   dsimp only at p0 p1 p2 q0 q1 q2
   have b0 : (0 : Int) ≤ (k : Int) := by omega
   have b1 : (k : Int) < (l.length : Int) := by omega
   have b2 : (k : Int) < (m.length : Int) := by omega
   clear hK hK2 HT hlt2
   go_upto_region 6 with fail
   by_cases e0 : x0 = y0
   case neg =>
    have f0 : (x0 == y0) = false := by simpa using e0
    have HE := lH_ (HN.out (fun h => e0 (by injection h)))
    clear e0
    go_quiet (fail)
    have HB3 := lH_ (bdrewN HBr.out nq)
    generalize wr.drewN nq = w3 at *
    go_wp2_with fail
    go_ret
    exact ⟨ret_bool HE.out.symm, HB3.out⟩
   have f0 : (x0 == y0) = true := by simpa using e0
   by_cases e1 : x1 = y1
   case neg =>
    have f1 : (x1 == y1) = false := by simpa using e1
    have HE := lH_ (HN.out (fun h => e1 (by injection h)))
    clear e1
    go_quiet (fail)
    have HB3 := lH_ (bdrewN HBr.out nq)
    generalize wr.drewN nq = w3 at *
    go_wp2_with fail
    go_ret
    exact ⟨ret_bool HE.out.symm, HB3.out⟩
   have f1 : (x1 == y1) = true := by simpa using e1
   by_cases e2 : x2 = y2
   case neg =>
    have f2 : (x2 == y2) = false := by simpa using e2
    have HE := lH_ (HN.out (fun h => e2 (by injection h)))
    clear e2
    go_quiet (fail)
    have HB3 := lH_ (bdrewN HBr.out nq)
    generalize wr.drewN nq = w3 at *
    go_wp2_with fail
    go_ret
    exact ⟨ret_bool HE.out.symm, HB3.out⟩
   have f2 : (x2 == y2) = true := by simpa using e2
   have HE := lH_ (HY.out (by rw [e0, e1, e2]))
   clear e0 e1 e2
   go_quiet (fail)
   have HB3 := lH_ (bdrewN HBr.out nq)
   generalize wr.drewN nq = w3 at *
   go_wp2_with fail
   exact ⟨⟨k + 1, by go_num, by omega, HE, HB3⟩, by simp [intOf]; omega⟩
  ·have d1 : decide (k < l.length) = false := decide_eq_false hlt
   have HE : Hid (decide (l = m) = true) := lH_ (decide_eq_true (by have h := HT.out; rwa [List.take_of_length_le (by omega), List.take_of_length_le (by have := HLN.out; omega)] at h))
   clear hlt
   go_wp2_with fail
   go_ret
   exact ⟨ret_bool HE.out.symm, HBr.out⟩
theorem eqI_any (l m : List I2) (A : Option Addr) (c : Nat) (B : Option Addr) (d : Nat) (w : World) (hC : Kd.C kI2 w A l.length l) (hD : Kd.C kI2 w B m.length m) : Calls Try.prog 31 #[.slice A l.length c, .slice B m.length d] w fun e w' => e = .returned (.bool (decide (l = m))) ∧ Below w.heap.size w w' := by
 have HC := lH_ hC
 have HD := lH_ hD
 have hml : l.length ≤ 9223372036854775807 := hC.2.1
 clear hC hD
 by_cases hlen : l.length = m.length
 case neg =>
  have HE : Hid (decide (l = m) = false) := lH_ (decide_eq_false (fun e => hlen (by rw [e])))
  have d0 : ((l.length : Int) != (m.length : Int)) = true := by simp; omega
  go_enter Try.func31, Try.ntmps31
  clear hlen
  go_wp2_with fail
  go_ret
  exact ⟨ret_bool HE.out.symm, Below.refl _ _⟩
 have d0 : ((l.length : Int) != (m.length : Int)) = false := by simp; omega
 have HLN := lH_ hlen
 clear hlen
 go_enter Try.func31, Try.ntmps31
 go_wp2_with fail
 go_loopw [13] (fun i wr => ∃ k : Nat, i = .int .i64 k ∧ k ≤ l.length ∧ Hid (l.take k = m.take k) ∧ Hid (Below w.heap.size w wr)) (fun i _ => l.length - (intOf i).toNat)
 case atStart => exact ⟨0, rfl, Nat.zero_le _, lH_ rfl, lH_ (Below.refl _ _)⟩
 case round =>
  obtain ⟨k, rfl, hk, HT, HBr⟩ := hrel
  by_cases hlt : k < l.length
  ·have d1 : decide (k < l.length) = true := decide_eq_true hlt
   obtain ⟨ad, c0, c1, rfl, hK, p0, p1⟩ := el2 (d := kI2) rfl (Kd.C_below HC.out HBr.out) zI2 k hlt
   have hk2 := kI2_open hK
   simp only [List.cons.injEq, and_true] at hk2
   obtain ⟨rfl, rfl⟩ := hk2
   have hlt2 : k < m.length := by rw [← HLN.out]; exact hlt
   obtain ⟨bd, c0, c1, rfl, hK2, q0, q1⟩ := el2 (d := kI2) rfl (Kd.C_below HD.out HBr.out) zI2 k hlt2
   have hk2 := kI2_open hK2
   simp only [List.cons.injEq, and_true] at hk2
   obtain ⟨rfl, rfl⟩ := hk2
   have HY := lH_ (fun h => eq_take_succ l m zI2 k hlt hlt2 HT.out h)
   have HN := lH_ (fun h => decide_eq_false (@ne_getD _ l m zI2 k h))
   generalize l.getD k zI2 = a at *
   generalize m.getD k zI2 = b at *
   obtain ⟨x0, x1⟩ := a
   obtain ⟨y0, y1⟩ := b
   dsimp only at p0 p1 q0 q1
   have b0 : (0 : Int) ≤ (k : Int) := by omega
   have b1 : (k : Int) < (l.length : Int) := by omega
   have b2 : (k : Int) < (m.length : Int) := by omega
   clear hK hK2 HT hlt2
   go_upto_region 6 with fail
   by_cases e0 : x0 = y0
   case neg =>
    have f0 : (x0 == y0) = false := by simpa using e0
    have HE := lH_ (HN.out (fun h => e0 (by injection h)))
    clear e0
    go_quiet (fail)
    have HB3 := lH_ (bdrewN HBr.out nq)
    generalize wr.drewN nq = w3 at *
    go_wp2_with fail
    go_ret
    exact ⟨ret_bool HE.out.symm, HB3.out⟩
   have f0 : (x0 == y0) = true := by simpa using e0
   by_cases e1 : x1 = y1
   case neg =>
    have f1 : (x1 == y1) = false := by simpa using e1
    have HE := lH_ (HN.out (fun h => e1 (by injection h)))
    clear e1
    go_quiet (fail)
    have HB3 := lH_ (bdrewN HBr.out nq)
    generalize wr.drewN nq = w3 at *
    go_wp2_with fail
    go_ret
    exact ⟨ret_bool HE.out.symm, HB3.out⟩
   have f1 : (x1 == y1) = true := by simpa using e1
   have HE := lH_ (HY.out (by rw [e0, e1]))
   clear e0 e1
   go_quiet (fail)
   have HB3 := lH_ (bdrewN HBr.out nq)
   generalize wr.drewN nq = w3 at *
   go_wp2_with fail
   exact ⟨⟨k + 1, by go_num, by omega, HE, HB3⟩, by simp [intOf]; omega⟩
  ·have d1 : decide (k < l.length) = false := decide_eq_false hlt
   have HE : Hid (decide (l = m) = true) := lH_ (decide_eq_true (by have h := HT.out; rwa [List.take_of_length_le (by omega), List.take_of_length_le (by have := HLN.out; omega)] at h))
   clear hlt
   go_wp2_with fail
   go_ret
   exact ⟨ret_bool HE.out.symm, HBr.out⟩
/- slices.Equal of moves. -/
theorem run_eqp (m0 m1 y0 y1 : Int) (w : World) : (Op.equalIn 10000 62 (.agg #[.int .i64 m0, .int .i64 m1]) (.agg #[.int .i64 y0, .int .i64 y1])).run Try.prog w = .ok (m0 == y0 && m1 == y1) w := by
 have hu : Try.prog.underlying 62 = some (.array 2 3) := by kernel_rfl
 have hI : Try.prog.underlying 3 = some (.int .i64) := by kernel_rfl
 have hc : Try.prog.cellsOf 3 = 1 := by kernel_rfl
 obtain ⟨i, hi⟩ : ∃ i, Try.prog.info? 3 = some i := Option.isSome_iff_exists.1 (by kernel_rfl)
 have hb : ∀ (a b : Int) (w : World), (Op.equalIn 9999 3 (.int .i64 a) (.int .i64 b)).run Try.prog w = .ok (a == b) w := fun a b w => run_equalIn_int w 9998 _ _ _ a b hI
 rw [show (10000 : Nat) = 9999 + 1 from rfl, run_equalIn_array w 9999 _ _ hu hi, hc]
 simp only [show List.range 2 = [0, 1] from rfl, Op.eqItems, Sem.run_bind]
 have hp : Try.prog.plainKey 3 = true := by kernel_rfl
 rw [run_part_plain w hp (v := .int .i64 m0) rfl]
 simp only [Result.andThen_ok]
 rw [run_part_plain w hp (v := .int .i64 y0) rfl]
 simp only [Result.andThen_ok, hb]
 by_cases h0 : m0 = y0
 ·subst h0
  simp only [BEq.rfl, Bool.not_true, Bool.false_eq_true, if_false, Bool.true_and, Sem.run_bind]
  rw [run_part_plain w hp (v := .int .i64 m1) rfl]
  simp only [Result.andThen_ok]
  rw [run_part_plain w hp (v := .int .i64 y1) rfl]
  simp only [Result.andThen_ok, hb]
  by_cases h1 : m1 = y1
  ·subst h1; simp
  ·have e : (m1 == y1) = false := by simpa using h1
   rw [e]; rfl
 ·have e : (m0 == y0) = false := by simpa using h0
  rw [e]; rfl
attribute [local go_sem] run_eqp
theorem eqM_any (l m : List I2) (A : Option Addr) (c : Nat) (B : Option Addr) (d : Nat) (w : World) (hC : Kd.C kI2 w A l.length l) (hD : Kd.C kI2 w B m.length m) : Calls Try.prog 68 #[.slice A l.length c, .slice B m.length d] w fun e w' => e = .returned (.bool (decide (l = m))) ∧ Below w.heap.size w w' := by
 have HC := lH_ hC
 have HD := lH_ hD
 have hml : l.length ≤ 9223372036854775807 := hC.2.1
 clear hC hD
 by_cases hlen : l.length = m.length
 case neg =>
  have HE : Hid (decide (l = m) = false) := lH_ (decide_eq_false (fun e => hlen (by rw [e])))
  have d0 : ((l.length : Int) != (m.length : Int)) = true := by simp; omega
  go_enter Try.func68, Try.ntmps68
  clear hlen
  go_wp2_with fail
  go_ret
  exact ⟨ret_bool HE.out.symm, Below.refl _ _⟩
 have d0 : ((l.length : Int) != (m.length : Int)) = false := by simp; omega
 have HLN := lH_ hlen
 clear hlen
 go_enter Try.func68, Try.ntmps68
 go_wp2_with fail
 go_loopw [13] (fun i wr => ∃ k : Nat, i = .int .i64 k ∧ k ≤ l.length ∧ Hid (l.take k = m.take k) ∧ Hid (Below w.heap.size w wr)) (fun i _ => l.length - (intOf i).toNat)
 case atStart => exact ⟨0, rfl, Nat.zero_le _, lH_ rfl, lH_ (Below.refl _ _)⟩
 case round =>
  obtain ⟨k, rfl, hk, HT, HBr⟩ := hrel
  by_cases hlt : k < l.length
  ·have d1 : decide (k < l.length) = true := decide_eq_true hlt
   obtain ⟨ad, c0, c1, rfl, hK, p0, p1⟩ := el2 (d := kI2) rfl (Kd.C_below HC.out HBr.out) zI2 k hlt
   have hk2 := kI2_open hK
   simp only [List.cons.injEq, and_true] at hk2
   obtain ⟨rfl, rfl⟩ := hk2
   have hlt2 : k < m.length := by rw [← HLN.out]; exact hlt
   obtain ⟨bd, c0, c1, rfl, hK2, q0, q1⟩ := el2 (d := kI2) rfl (Kd.C_below HD.out HBr.out) zI2 k hlt2
   have hk2 := kI2_open hK2
   simp only [List.cons.injEq, and_true] at hk2
   obtain ⟨rfl, rfl⟩ := hk2
   have HY := lH_ (fun h => eq_take_succ l m zI2 k hlt hlt2 HT.out h)
   have HN := lH_ (fun h => decide_eq_false (@ne_getD _ l m zI2 k h))
   generalize l.getD k zI2 = a at *
   generalize m.getD k zI2 = b at *
   obtain ⟨x0, x1⟩ := a
   obtain ⟨y0, y1⟩ := b
   dsimp only at p0 p1 q0 q1
   have b0 : (0 : Int) ≤ (k : Int) := by omega
   have b1 : (k : Int) < (l.length : Int) := by omega
   have b2 : (k : Int) < (m.length : Int) := by omega
   clear hK hK2 HT hlt2
   go_upto_region 6 with fail
   by_cases e0 : x0 = y0
   case neg =>
    have f0 : (x0 == y0) = false := by simpa using e0
    have HE := lH_ (HN.out (fun h => e0 (by injection h)))
    clear e0
    go_quiet (fail)
    have HB3 := lH_ (bdrewN HBr.out nq)
    generalize wr.drewN nq = w3 at *
    go_wp2_with fail
    go_ret
    exact ⟨ret_bool HE.out.symm, HB3.out⟩
   have f0 : (x0 == y0) = true := by simpa using e0
   by_cases e1 : x1 = y1
   case neg =>
    have f1 : (x1 == y1) = false := by simpa using e1
    have HE := lH_ (HN.out (fun h => e1 (by injection h)))
    clear e1
    go_quiet (fail)
    have HB3 := lH_ (bdrewN HBr.out nq)
    generalize wr.drewN nq = w3 at *
    go_wp2_with fail
    go_ret
    exact ⟨ret_bool HE.out.symm, HB3.out⟩
   have f1 : (x1 == y1) = true := by simpa using e1
   have HE := lH_ (HY.out (by rw [e0, e1]))
   clear e0 e1
   go_quiet (fail)
   have HB3 := lH_ (bdrewN HBr.out nq)
   generalize wr.drewN nq = w3 at *
   go_wp2_with fail
   exact ⟨⟨k + 1, by go_num, by omega, HE, HB3⟩, by simp [intOf]; omega⟩
  ·have d1 : decide (k < l.length) = false := decide_eq_false hlt
   have HE : Hid (decide (l = m) = true) := lH_ (decide_eq_true (by have h := HT.out; rwa [List.take_of_length_le (by omega), List.take_of_length_le (by have := HLN.out; omega)] at h))
   clear hlt
   go_wp2_with fail
   go_ret
   exact ⟨ret_bool HE.out.symm, HBr.out⟩
end Go.Proofs.Ythpccdhmppbkfaa
/- slices.EqualFunc of contours. -/
namespace Go.Proofs.Ythpccdhmppbkfaa
open Go.RowKit Go.Shelf Go.Proofs.YthpccdhmppbkfaaW.PrintWords Go.Proofs.YthpccdhmppbkfaaW.PrintLast Go.Proofs.YthpccdhmppbkfaaW.PrintMore
theorem eqC_any (l m : List (List Pt)) (A : Option Addr) (c : Nat) (B : Option Addr) (d : Nat) (w : World) (hC : Kd.C kCt w A l.length l) (hD : Kd.C kCt w B m.length m) : Calls Try.prog 28 #[.slice A l.length c, .slice B m.length d, .func (.func 29) #[] #[]] w fun e w' => e = .returned (.bool (decide (l = m))) ∧ Below w.heap.size w w' := by
 have HC := lH_ hC
 have HD := lH_ hD
 have hml : l.length ≤ 9223372036854775807 := hC.2.1
 clear hC hD
 by_cases hlen : l.length = m.length
 case neg =>
  have HE : Hid (decide (l = m) = false) := lH_ (decide_eq_false (fun e => hlen (by rw [e])))
  have d0 : ((l.length : Int) != (m.length : Int)) = true := by simp; omega
  go_enter Try.func28, Try.ntmps28
  clear hlen
  go_wp2_with fail
  go_ret
  exact ⟨ret_bool HE.out.symm, Below.refl _ _⟩
 have d0 : ((l.length : Int) != (m.length : Int)) = false := by simp; omega
 have HLN := lH_ hlen
 clear hlen
 go_enter Try.func28, Try.ntmps28
 go_wp2_with fail
 go_loopw [17] (fun i wr => ∃ k : Nat, i = .int .i64 k ∧ k ≤ l.length ∧ Hid (l.take k = m.take k) ∧ Hid (Below w.heap.size w wr)) (fun i _ => l.length - (intOf i).toNat)
 case atStart => exact ⟨0, rfl, Nat.zero_le _, lH_ rfl, lH_ (Below.refl _ _)⟩
 case round =>
  obtain ⟨k, rfl, hk, HT, HBr⟩ := hrel
  by_cases hlt : k < l.length
  ·have d1 : decide (k < l.length) = true := decide_eq_true hlt
   obtain ⟨ad, c0, rfl, hK, p0⟩ := el1 (d := kCt) rfl (Kd.C_below HC.out HBr.out) [] k hlt
   obtain ⟨Ai, ci, hcs, _, hM⟩ := kSl_open hK
   simp only [List.cons.injEq, and_true] at hcs
   subst hcs
   have hlt2 : k < m.length := by rw [← HLN.out]; exact hlt
   obtain ⟨bd, c0, rfl, hK2, q0⟩ := el1 (d := kCt) rfl (Kd.C_below HD.out HBr.out) [] k hlt2
   obtain ⟨Bi, di, hcs, _, hN⟩ := kSl_open hK2
   simp only [List.cons.injEq, and_true] at hcs
   subst hcs
   have HY := lH_ (fun h => eq_take_succ l m [] k hlt hlt2 HT.out h)
   have HN := lH_ (fun h => decide_eq_false (@ne_getD _ l m [] k h))
   generalize l.getD k [] = a at *
   generalize m.getD k [] = b at *
   have b0 : (0 : Int) ≤ (k : Int) := by omega
   have b1 : (k : Int) < (l.length : Int) := by omega
   have b2 : (k : Int) < (m.length : Int) := by omega
   have HQ := lH_ (eqP_any a b Ai ci Bi di wr hM hN)
   clear hK hK2 HT hlt2 hM hN
   go_wp2_with fail
   refine HQ.out.mono ?_
   rintro e w3 ⟨rfl, hb⟩
   have HB3 := lH_ (bthen' HBr.out hb)
   clear hb p0 q0
   by_cases hab : a = b
   ·have HE := lH_ (HY.out hab)
    rw [decide_eq_true hab]
    clear hab
    go_wp2_with fail
    exact ⟨⟨k + 1, by go_num, by omega, HE, HB3⟩, by simp [intOf]; omega⟩
   ·have HE := lH_ (HN.out hab)
    rw [decide_eq_false hab]
    clear hab
    go_wp2_with fail
    go_ret
    exact ⟨ret_bool HE.out.symm, HB3.out⟩
  ·have d1 : decide (k < l.length) = false := decide_eq_false hlt
   have HE : Hid (decide (l = m) = true) := lH_ (decide_eq_true (by have h := HT.out; rwa [List.take_of_length_le (by omega), List.take_of_length_le (by have := HLN.out; omega)] at h))
   clear hlt
   go_wp2_with fail
   go_ret
   exact ⟨ret_bool HE.out.symm, HBr.out⟩

end Go.Proofs.Ythpccdhmppbkfaa