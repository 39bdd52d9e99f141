/- ODf, ODfW: merged by wip/prune.py. -/
import Derived.Test.YthpccdhmppbkfaaOa9
/- OutlineDefault. -/
set_option linter.unusedVariables false
set_option linter.unusedSimpArgs false
namespace Go.Proofs.Ythpccdhmppbkfaa
open Go.RowKit Go.Shelf Go.Proofs.YthpccdhmppbkfaaW.PrintWords Go.Proofs.YthpccdhmppbkfaaW.PrintLast Go.Proofs.YthpccdhmppbkfaaW.PrintMore
/-- the glyph's deltas as they stand after k regions -/
def DfOk (g : Gl) (h : Hd) (rs : List (List I3)) (ns : List Int) (k : Nat) (dl : List Dl) (a3 : Option Addr) (c3 : Nat) : Prop := (dl = g.dl ∧ a3 = h.a3 ∧ c3 = h.c3 ∧ ∀ j, j < k → (sclB (rs.getD j []) ns).a = 0) ∨ (dl = [] ∧ a3 = none ∧ c3 = 0)
theorem df_keep {g : Gl} {h : Hd} {rs : List (List I3)} {ns : List Int} {k : Nat} {dl : List Dl} {a3 : Option Addr} {c3 : Nat} (d : DfOk g h rs ns k dl a3 c3) (hz : (sclB (rs.getD k []) ns).a = 0) : DfOk g h rs ns (k + 1) dl a3 c3 := by
 rcases d with ⟨h1, h2, h3, h4⟩ | d
 ·refine .inl ⟨h1, h2, h3, fun j hj => ?_⟩
  rcases Nat.lt_or_ge j k with h5 | h5
  ·exact h4 j h5
  ·rw [show j = k by omega]; exact hz
 ·exact .inr d
theorem part_0 (a d : Int) : partQ a 0 d = 0 := by
 unfold partQ
 split
 ·rename_i h
  unfold partOk at h
  rw [Bool.and_eq_true] at h
  have h1 := (rightB_true.1 h.2).1
  rw [Int.mul_zero]
  unfold rnd
  rw [Int.zero_emod, Int.zero_ediv, if_neg (by omega)]
 ·rfl
theorem sum_0 : ∀ l : List Int, (∀ x ∈ l, x = 0) → l.sum = 0
 | [], _ => rfl
 | a :: l, h => by rw [List.sum_cons, h a (List.mem_cons_self ..), sum_0 l (fun x hx => h x (List.mem_cons_of_mem _ hx))]; rfl
theorem sumB_0 (bv : Dl → Int) (n : Int) (dl : List Dl) (f : Dl → I2) (h : ∀ d ∈ dl, (f d).a = 0) : sumB bv n dl (dl.map f) = 64 * n := by
 unfold sumB
 rw [sum_0 _ (fun x hx => by
  obtain ⟨y, hy, rfl⟩ := List.mem_map.1 hx
  have h1 := List.of_mem_zip hy
  obtain ⟨d, hd, e⟩ : ∃ d ∈ dl, y = (d, f d) := by
   have h2 : dl.zip (dl.map f) = dl.map fun d => (d, f d) := by
    clear h hy h1 hx
    induction dl with
    | nil => rfl
    | cons a l ih => rw [List.map_cons, List.zip_cons_cons, ih, List.map_cons]
   rw [h2] at hy
   obtain ⟨d, hd, e⟩ := List.mem_map.1 hy
   exact ⟨d, hd, e.symm⟩
  rw [e]
  dsimp only
  rw [h d hd, part_0]), Int.add_zero]
theorem map_range_getD {α β : Type} (l : List α) (z : α) (f : α → β) : (List.range l.length).map (fun i => f (l.getD i z)) = l.map f := by
 apply List.ext_getElem
 ·simp
 ·intro i h1 h2
  simp only [List.length_map] at h2
  simp [List.getD_eq_getElem?_getD, h2]
/-- with scalars 0 all numbers are 64 times the glyph's -/
theorem num_64 (g : Gl) (rs : List (List I3)) (ns : List Int) (h : ∀ d ∈ g.dl, (sclB (rs.getD d.region.toNat []) ns).a = 0) : numL (atC g rs ns) (atA g rs ns) (atX g rs ns) (atY g rs ns) (atV g rs ns) = (numL g.ct g.an g.hang.b g.hang.c g.adv).map fun x => 64 * x := by
 have hs : ∀ (bv : Dl → Int) (n : Int), sumB bv n g.dl (atS g rs ns) = 64 * n := fun bv n => sumB_0 bv n g.dl _ h
 have hC : atC g rs ns = g.ct.map fun c => c.map fun p => ⟨64 * p.a, 64 * p.b, p.c⟩ := by
  unfold atC plCs
  rw [← map_range_getD g.ct [] (fun c => c.map fun p => (⟨64 * p.a, 64 * p.b, p.c⟩ : Pt))]
  apply List.map_congr_left
  intro j _
  unfold plC plL spK
  rw [List.map_map, ← map_range_getD (g.ct.getD j []) zPt (fun p => (⟨64 * p.a, 64 * p.b, p.c⟩ : Pt))]
  apply List.map_congr_left
  intro i _
  show plP _ _ _ _ = _
  unfold plP
  rw [hs, hs]
 have hA : atA g rs ns = g.an.map fun p => ⟨p.a, 64 * p.b, 64 * p.c⟩ := by
  unfold atA plAs
  rw [← map_range_getD g.an zI3 (fun p => (⟨p.a, 64 * p.b, 64 * p.c⟩ : I3))]
  apply List.map_congr_left
  intro i _
  unfold plA
  rw [hs, hs]
 have h1 : atX g rs ns = 64 * g.hang.b := hs _ _
 have h2 : atY g rs ns = 64 * g.hang.c := hs _ _
 have h3 : atV g rs ns = 64 * g.adv := hs _ _
 rw [hC, hA, h1, h2, h3]
 unfold numL
 rw [List.map_append, List.map_append]
 congr 1
 congr 1
 ·unfold numC
  rw [List.flatMap_map, List.map_flatMap]
  congr 1
  funext q
  unfold numP
  rw [List.flatMap_map, List.map_flatMap]
  rfl
 ·unfold numA
  rw [List.flatMap_map, List.map_flatMap]
  rfl
theorem md_nil {g : Gl} {R : Nat} (h : MdOk R g) : MdOk R ⟨g.ct, g.an, g.hang, g.adv, [], g.pr⟩ := by
 refine ⟨?_, h.pr, Nat.zero_le _, h.nc⟩
 have h1 := h.chk
 unfold Gl.chk Gl.chk2 Gl.chk3 Gl.chk4 Gl.chk5 Gl.chk6 at h1 ⊢
 dsimp only at h1 ⊢
 split at h1; · cases h1
 rename_i k1
 rw [if_neg k1]
 split at h1; · cases h1
 rename_i k2
 rw [if_neg (show ¬ (6 < g.ct.length ∨ 6 < g.an.length ∨ 40 < Gl.pts ⟨g.ct, g.an, g.hang, g.adv, [], g.pr⟩) from k2)]
 split at h1; · cases h1
 rename_i k3
 rw [if_neg k3]
 split at h1; · cases h1
 rename_i k4
 rw [if_neg k4]
 split at h1; · cases h1
 rename_i k5
 rw [if_neg k5]
 rfl
theorem df_end {w w' : World} {g : Gl} {h : Hd} {rs : List (List I3)} {Ar : Option Addr} {cr : Nat} {ns : List Int} {Ba : Option Addr} {ca : Nat} (c : CaseP w g h rs Ar cr ns Ba ca w') {dl : List Dl} {a3 : Option Addr} {c3 : Nat} (d : DfOk g h rs ns rs.length dl a3 c3) :
  GlR w' ⟨g.ct, g.an, g.hang, g.adv, dl, g.pr⟩ ⟨h.a1, h.c1, h.a2, h.c2, a3, c3, h.a4, h.c4⟩ ∧ MdOk rs.length ⟨g.ct, g.an, g.hang, g.adv, dl, g.pr⟩ ∧ numL (atC ⟨g.ct, g.an, g.hang, g.adv, dl, g.pr⟩ rs ns) (atA ⟨g.ct, g.an, g.hang, g.adv, dl, g.pr⟩ rs ns) (atX ⟨g.ct, g.an, g.hang, g.adv, dl, g.pr⟩ rs ns) (atY ⟨g.ct, g.an, g.hang, g.adv, dl, g.pr⟩ rs ns) (atV ⟨g.ct, g.an, g.hang, g.adv, dl, g.pr⟩ rs ns) = (numL g.ct g.an g.hang.b g.hang.c g.adv).map fun x => 64 * x := by
 rcases d with ⟨rfl, rfl, rfl, h4⟩ | ⟨rfl, rfl, rfl⟩
 ·refine ⟨c.gl, c.md, num_64 g rs ns (fun d hd => h4 _ ?_)⟩
  have h1 := (chk_good g _ c.md.chk).dl d hd
  omega
 ·exact ⟨⟨c.gl.ct, c.gl.an, Kd.C_nil _ _, c.gl.pr, c.gl.l1, c.gl.l2, Nat.le_refl 0, c.gl.l4⟩, md_nil c.md, num_64 ⟨g.ct, g.an, g.hang, g.adv, [], g.pr⟩ rs ns (fun d hd => by cases hd)⟩
set_option maxRecDepth 100000 in
set_option maxHeartbeats 16000000 in
theorem default_any (l1 l2 l3 : List Int) (A1 A2 A3 : Option Addr) (c1 c2 c3 : Nat) (o0 o1 o2 x y : Int) (w : World) (hx : 0 ≤ x ∧ x ≤ 255) (hy : 0 ≤ y ∧ y ≤ 255) (h1 : Kd.C kI w A1 l1.length l1) (h2 : Kd.C kI w A2 l2.length l2) (h3 : Kd.C kI w A3 l3.length l3) (h4 : l2.length ≤ c2) :
  Calls Try.prog 4 #[.agg #[.slice A1 l1.length c1, .slice A2 l2.length c2, .slice A3 l3.length c3, .int .i64 o0, .int .i64 o1, .int .i64 o2, .int .u8 x, .int .u8 y]] w fun e w' => e = .returned (.bool true) ∧ Below w.heap.size w w' := by
 have HC1 := Lib.hid h1
 have HC2 := Lib.hid h2
 have HC3 := Lib.hid h3
 have HCP2 := Lib.hid h4
 have HBX := Lib.hid hx
 have HBY := Lib.hid hy
 clear h1 h2 h3 h4 hx hy
 go_enter Try.func4, Try.ntmps4
 go_upto_region 1 with fail
 obtain ⟨w1, g1, hw0_, hg0_, Xg1_, Yg1_, _⟩ := new_box w #[.slice A1 l1.length c1, .slice A2 l2.length c2, .slice A3 l3.length c3, .int .i64 o0, .int .i64 o1, .int .i64 o2, .int .u8 x, .int .u8 y] 33
 rw [hw0_, hg0_]
 have Eg1 := Lib.hid (show g1 = w.heap.size + 0 by omega)
 clear hw0_ hg0_
 have HXw1 := Lib.hid (Yg1_.out)
 have Bg1 := Lib.hid (Xg1_.out)
 clear Xg1_ Yg1_
 have HX := HXw1
 clear HXw1
 go_wp2_with fail
 refine (sanity_any w1).mono ?_
 rintro e w2 ⟨rfl, hb⟩
 replace HX := Lib.hid (bthen' HX.out hb)
 replace Bg1 := Lib.hid (Bg1.out.below hb)
 clear hb
 have q0 := Bg1.out.cell 0
 have q1 := Bg1.out.cell 1
 have q2 := Bg1.out.cell 2
 have q3 := Bg1.out.cell 3
 have q4 := Bg1.out.cell 4
 have q5 := Bg1.out.cell 5
 have q6 := Bg1.out.cell 6
 have q7 := Bg1.out.cell 7
 simp only [List.getElem?_toArray, List.getElem?_cons_zero, List.getElem?_cons_succ] at q0 q1 q2 q3 q4 q5 q6 q7
 go_wp2_with fail
 refine (case_any l1 l2 l3 A1 A2 A3 c1 c2 c3 o0 o1 o2 x y w2 HBX.out HBY.out (Kd.C_below HC1.out HX.out) (Kd.C_below HC2.out HX.out) (Kd.C_below HC3.out HX.out) HCP2.out).mono ?_
 rintro e v ⟨g, h, rs, Ar, cr, ns, Ba, ca, rfl, hcp⟩
 have hb := hcp.below
 have HCP := Lib.hid hcp
 clear hcp
 replace HX := Lib.hid (bthen' HX.out hb)
 clear hb
 have HWV := Lib.hid HX.out.size
 have HXR := Lib.hid (Below.refl v.heap.size v)
 clear q0 q1 q2 q3 q4 q5 q6 q7 Bg1 HC1 HC2 HC3 HCP2 HBX HBY
 unfold gv
 go_upto_region 3 with fail
 obtain ⟨v2, gG, hw0_, hg0_, XgG_, YgG_, _⟩ := new_box v #[.slice h.a1 g.ct.length h.c1, .slice h.a2 g.an.length h.c2, .int .i64 g.hang.a, .int .i64 g.hang.b, .int .i64 g.hang.c, .int .i64 g.adv, .slice h.a3 g.dl.length h.c3, .slice h.a4 g.pr.length h.c4] 29
 rw [hw0_, hg0_]
 have EgG := Lib.hid (show gG = v.heap.size + 0 by omega)
 clear hw0_ hg0_
 have HXv2 := Lib.hid (YgG_.out)
 have BgG := Lib.hid (XgG_.out)
 clear XgG_ YgG_
 have hb := HXv2.out
 replace HX := Lib.hid (bthen' HX.out hb)
 replace HXR := Lib.hid (bthen' HXR.out hb)
 clear hb HXv2
 have HGV := Lib.hid (show v.heap.size ≤ gG by have := EgG.out; omega)
 have HGW := Lib.hid (show w.heap.size ≤ gG by have := HGV.out; have := HWV.out; omega)
 go_wp2_with fail
 go_loopw [24] (fun i wr => ∃ (k : Nat) (dl : List Dl) (a3 : Option Addr) (c3 : Nat), i = .int .i64 (k : Int) ∧ k ≤ rs.length ∧ Hid (Blk wr gG #[.slice h.a1 g.ct.length h.c1, .slice h.a2 g.an.length h.c2, .int .i64 g.hang.a, .int .i64 g.hang.b, .int .i64 g.hang.c, .int .i64 g.adv, .slice a3 dl.length c3, .slice h.a4 g.pr.length h.c4] 29) ∧ Hid (DfOk g h rs ns k dl a3 c3) ∧ Hid (Below w.heap.size w wr) ∧ Hid (Below v.heap.size v wr)) (fun i _ => rs.length - (intOf i).toNat)
 case atStart => exact ⟨0, g.dl, h.a3, h.c3, rfl, Nat.zero_le _, BgG, Lib.hid (.inl ⟨rfl, rfl, rfl, fun j hj => absurd hj (Nat.not_lt_zero j)⟩), HX, HXR⟩
 case round =>
  clear BgG HX HXR
  obtain ⟨k, dl, a3, c3, rfl, hk, BgG, HDF, HX, HXR⟩ := hrel
  by_cases hlt : k < rs.length
  ·have d1 : decide (k < rs.length) = true := decide_eq_true hlt
   have d2 : decide ((k : Int) < (rs.length : Int)) = true := decide_eq_true (by omega)
   have HKL := Lib.hid hlt
   have hk5 : k < 5 := by have := HCP.out.rl; omega
   have b0 : (0 : Int) ≤ (k : Int) := by omega
   have b1 : (k : Int) < (rs.length : Int) := by omega
   obtain ⟨ad, c0, hAr, hK, p0⟩ := el1 (d := kRg) rfl (Kd.C_below HCP.out.rr HXR.out) [] k hlt
   subst hAr
   obtain ⟨Ai, ci, hcs, hcl, hM⟩ := kSl_open hK
   simp only [List.cons.injEq, and_true] at hcs
   subst hcs
   have HM := Lib.hid hM
   have HSZ := Lib.hid (df_keep (g := g) (h := h) (rs := rs) (ns := ns) (k := k) HDF.out)
   clear hK hM hcl hk hlt
   generalize rs.getD k [] = r at *
   go_upto_region 6 with fail
   obtain ⟨u1, gR, hw0_, hg0_, XgR_, YgR_, _⟩ := new_box wr #[.slice Ai r.length ci] 46
   rw [hw0_, hg0_]
   have EgR := Lib.hid (show gR = wr.heap.size + 0 by omega)
   clear hw0_ hg0_
   have HXu1 := Lib.hid (YgR_.out)
   have BgR := Lib.hid (XgR_.out)
   clear XgR_ YgR_
   have hb := HXu1.out
   replace HX := Lib.hid (bthen' HX.out hb)
   replace HXR := Lib.hid (bthen' HXR.out hb)
   replace BgG := Lib.hid (BgG.out.below hb)
   clear hb
   replace HM := Lib.hid (Kd.C_below HM.out HXu1.out)
   clear p0 b0 b1
   have z0 := BgR.out.cell 0
   simp only [List.getElem?_toArray, List.getElem?_cons_zero, List.getElem?_cons_succ] at z0
   go_wp2_with fail
   refine (scalar_any r Ai ci ns Ba ca u1 HM.out (Kd.C_below HCP.out.nn HXR.out)).mono ?_
   rintro e u2 ⟨rfl, hb⟩
   replace HX := Lib.hid (bthen' HX.out hb)
   replace HXR := Lib.hid (bthen' HXR.out hb)
   replace BgG := Lib.hid (BgG.out.below hb)
   clear hb
   clear z0
   obtain ⟨sa, hsa⟩ : ∃ q, (sclB r ns).a = q := ⟨_, rfl⟩
   obtain ⟨sb, hsb⟩ : ∃ q, (sclB r ns).b = q := ⟨_, rfl⟩
   rw [hsa, hsb]
   rw [hsa] at HSZ
   clear hsa hsb
   go_upto_region 7 with fail
   obtain ⟨u3, gS, hw0_, hg0_, XgS_, YgS_, _⟩ := new_box u2 #[.int .i64 sa, .int .i64 sb] 48
   rw [hw0_, hg0_]
   have EgS := Lib.hid (show gS = u2.heap.size + 0 by omega)
   clear hw0_ hg0_
   have HXu3 := Lib.hid (YgS_.out)
   have BgS := Lib.hid (XgS_.out)
   clear XgS_ YgS_
   have hb := HXu3.out
   replace HX := Lib.hid (bthen' HX.out hb)
   replace HXR := Lib.hid (bthen' HXR.out hb)
   replace BgG := Lib.hid (BgG.out.below hb)
   clear hb
   have z0 := BgS.out.cell 0
   simp only [List.getElem?_toArray, List.getElem?_cons_zero, List.getElem?_cons_succ] at z0
   by_cases hz : sa = 0
   ·have e1 : (sa != 0) = false := by rw [hz]; rfl
    have HDF2 := Lib.hid (HSZ.out hz)
    subst hz
    go_wp2_with fail
    exact ⟨⟨k + 1, dl, a3, c3, by go_num, by have := HKL.out; omega, BgG, Lib.hid (HDF2.out), HX, HXR⟩, by have := HKL.out; simp [intOf]; omega⟩
   ·have e1 : (sa != 0) = true := by simpa using hz
    clear hz
    have y6 := BgG.out.cell 6
    have f6 := BgG.out.frozen 6
    simp only [List.getElem?_toArray, List.getElem?_cons_zero, List.getElem?_cons_succ] at y6
    go_wp2_with fail
    exact ⟨⟨k + 1, [], none, 0, by go_num, by have := HKL.out; omega, Lib.hid (BgG.out.put 6 (.slice none 0 0) rfl), Lib.hid (.inr ⟨rfl, rfl, rfl⟩), Lib.hid (bset HX.out HGW.out 6 _), Lib.hid (bset HXR.out HGV.out 6 _)⟩, by have := HKL.out; simp [intOf]; omega⟩
  ·have d1 : decide (k < rs.length) = false := decide_eq_false hlt
   have d2 : decide ((k : Int) < (rs.length : Int)) = false := decide_eq_false (by omega)
   obtain rfl : k = rs.length := by omega
   clear hlt hk
   have HG1 := Lib.hid (df_end HCP.out HDF.out)
   obtain ⟨hgl, hmd, hzz⟩ := HG1.out
   clear HG1 HDF
   have HMD := Lib.hid hmd
   have HGL := Lib.hid hgl
   have HZZ := Lib.hid hzz
   clear hgl hmd hzz
   have d0 := BgG.out.cell 0
   have d1 := BgG.out.cell 1
   have d2 := BgG.out.cell 2
   have d3 := BgG.out.cell 3
   have d4 := BgG.out.cell 4
   have d5 := BgG.out.cell 5
   have d6 := BgG.out.cell 6
   have d7 := BgG.out.cell 7
   simp only [List.getElem?_toArray, List.getElem?_cons_zero, List.getElem?_cons_succ] at d0 d1 d2 d3 d4 d5 d6 d7
   go_wp2_with fail
   refine (at_any ⟨g.ct, g.an, g.hang, g.adv, dl, g.pr⟩ ⟨h.a1, h.c1, h.a2, h.c2, a3, c3, h.a4, h.c4⟩ rs Ar cr ns Ba ca wr (HGL.out.below HXR.out) (md_few HMD.out) (Kd.C_below HCP.out.rr HXR.out) (Kd.C_below HCP.out.nn HXR.out) (by have := HCP.out.rl; omega) (by have := HCP.out.n3; omega)).mono ?_
   rintro e v3 ⟨hb, ⟨h1, _⟩ | ⟨_, vb, va, rfl, hC, hA⟩⟩
   ·exact absurd (case_E HCP.out _ HMD.out.chk) h1
   have HNM := Lib.hid HZZ.out
   have HDB := Lib.hid (at_bd HMD.out rs ns)
   have hln := atC_len ⟨g.ct, g.an, g.hang, g.adv, dl, g.pr⟩ rs ns
   have hgd := chk_good _ _ HMD.out.chk
   dsimp only at hln
   have HM1 := Lib.hid (show g.ct.length ≤ 1000000 by have := hgd.nc; dsimp only at this; omega)
   have HM2 := Lib.hid (show g.an.length ≤ 1000000 by have := hgd.na; dsimp only at this; omega)
   have HM4 := Lib.hid (show ptsN g.ct ≤ 1000000 by have := hgd.np; unfold Gl.pts at this; dsimp only at this; omega)
   have HM3 := Lib.hid (show ∀ q ∈ g.ct, q.length ≤ 1000000 from fun q hq => Nat.le_trans (len_le_pts _ q hq) HM4.out)
   generalize atC ⟨g.ct, g.an, g.hang, g.adv, dl, g.pr⟩ rs ns = ct at *
   generalize atA ⟨g.ct, g.an, g.hang, g.adv, dl, g.pr⟩ rs ns = an at *
   generalize atX ⟨g.ct, g.an, g.hang, g.adv, dl, g.pr⟩ rs ns = xb at *
   generalize atY ⟨g.ct, g.an, g.hang, g.adv, dl, g.pr⟩ rs ns = xc at *
   generalize atV ⟨g.ct, g.an, g.hang, g.adv, dl, g.pr⟩ rs ns = av at *
   have HL1 := Lib.hid (show ct.length ≤ 1000000 by rw [hln.1]; exact HM1.out)
   have HL2 := Lib.hid (show an.length ≤ 1000000 by rw [hln.2.2.2]; exact HM2.out)
   have HL4 := Lib.hid (show ptsN ct ≤ 1000000 by rw [hln.2.1]; exact HM4.out)
   have HL3 := Lib.hid (show ∀ q ∈ ct, q.length ≤ 1000000 from fun q hq => Nat.le_trans (len_le_pts _ q hq) HL4.out)
   clear hln hgd
   obtain ⟨B1, k1, rfl, _, hc⟩ := Kd.R_reads hC
   obtain ⟨B2, k2, rfl, _, ha⟩ := Kd.R_reads hA
   have HC := Lib.hid hc
   have HA := Lib.hid ha
   clear hC hA hc ha
   replace HX := Lib.hid (bthen' HX.out hb)
   replace HXR := Lib.hid (bthen' HXR.out hb)
   replace BgG := Lib.hid (BgG.out.below hb)
   clear hb
   clear d0 d1 d2 d3 d4 d5 d6 d7
   go_upto_region 11 with fail
   obtain ⟨v4, gD, hw0_, hg0_, XgD_, YgD_, _⟩ := new_box v3 #[.slice B1 ct.length k1, .slice B2 an.length k2, .int .i64 g.hang.a, .int .i64 xb, .int .i64 xc, .int .i64 av] 51
   rw [hw0_, hg0_]
   have EgD := Lib.hid (show gD = v3.heap.size + 0 by omega)
   clear hw0_ hg0_
   have HXv4 := Lib.hid (YgD_.out)
   have BgD := Lib.hid (XgD_.out)
   clear XgD_ YgD_
   have hb := HXv4.out
   replace HX := Lib.hid (bthen' HX.out hb)
   replace HXR := Lib.hid (bthen' HXR.out hb)
   replace BgG := Lib.hid (BgG.out.below hb)
   clear hb
   have d0 := BgD.out.cell 0
   have d1 := BgD.out.cell 1
   have d2 := BgD.out.cell 2
   have d3 := BgD.out.cell 3
   have d4 := BgD.out.cell 4
   have d5 := BgD.out.cell 5
   simp only [List.getElem?_toArray, List.getElem?_cons_zero, List.getElem?_cons_succ] at d0 d1 d2 d3 d4 d5
   go_wp2_with fail
   refine (numbers_any ct an g.hang.a xb xc av B1 B2 k1 k2 v4 HL1.out HL2.out HL3.out HL4.out (Kd.C_below HC.out HXv4.out) (Kd.C_below HA.out HXv4.out)).mono ?_
   rintro e v5 ⟨v0, rfl, hr, hb⟩
   have RA := Lib.hid hr
   clear hr
   replace HX := Lib.hid (bthen' HX.out hb)
   replace HXR := Lib.hid (bthen' HXR.out hb)
   replace BgG := Lib.hid (BgG.out.below hb)
   clear hb
   clear d0 d1 d2 d3 d4 d5
   go_upto_region 12 with fail
   have d0 := BgG.out.cell 0
   have d1 := BgG.out.cell 1
   have d2 := BgG.out.cell 2
   have d3 := BgG.out.cell 3
   have d4 := BgG.out.cell 4
   have d5 := BgG.out.cell 5
   have d6 := BgG.out.cell 6
   have d7 := BgG.out.cell 7
   simp only [List.getElem?_toArray, List.getElem?_cons_zero, List.getElem?_cons_succ] at d0 d1 d2 d3 d4 d5 d6 d7
   go_wp2_with fail
   refine (numbers_any g.ct g.an g.hang.a g.hang.b g.hang.c g.adv h.a1 h.a2 h.c1 h.c2 v5 HM1.out HM2.out HM3.out HM4.out (Kd.C_below HCP.out.gl.ct HXR.out) (Kd.C_below HCP.out.gl.an HXR.out)).mono ?_
   rintro e v6 ⟨v1, rfl, hr, hb⟩
   have RB := Lib.hid hr
   replace RA := Lib.hid (Kd.R_below RA.out hb)
   clear hr d0 d1 d2 d3 d4 d5 d6 d7
   replace HX := Lib.hid (bthen' HX.out hb)
   replace HXR := Lib.hid (bthen' HXR.out hb)
   clear hb
   have HNB := Lib.hid (mem_num HDB.out)
   obtain ⟨xs, hxs⟩ : ∃ q, numL ct an xb xc av = q := ⟨_, rfl⟩
   obtain ⟨ys, hys⟩ : ∃ q, numL g.ct g.an g.hang.b g.hang.c g.adv = q := ⟨_, rfl⟩
   have hxl : ys.length ≤ 5000000 := by rw [← hys]; unfold numL; rw [List.length_append, List.length_append, numC_len, numA_len]; have := HM4.out; have := HM2.out; simp only [List.length_cons, List.length_nil]; omega
   have HXL := Lib.hid hxl
   rw [hxs] at RA HNM HNB
   rw [hys] at RB HNM
   clear hxs hys hxl HDB HC HA HL1 HL2 HL3 HL4 HM1 HM2 HM3 HM4 HXv4 HXR BgG HGL HMD HZZ HCP
   obtain ⟨Na, na, rfl⟩ := Kd.R_slice RA.out
   obtain ⟨Nb, nb, rfl⟩ := Kd.R_slice RB.out
   have hyl : xs.length = ys.length := by rw [HNM.out, List.length_map]
   have HYL := Lib.hid hyl
   have CA := Lib.hid (Kd.R_reads' RA.out).2.2
   have CB := Lib.hid (Kd.R_reads' RB.out).2.2
   clear RA RB
   have hne : ((ys.length : Int) != (ys.length : Int)) = false := by simp
   have hne2 : (ys.length != ys.length) = false := by simp
   rw [hyl]
   go_wp2_with fail
   clear hyl hne hne2
   go_loopw [66] (fun i wr => ∃ (k : Nat), i = .int .i64 (k : Int) ∧ k ≤ ys.length ∧ Hid (Below w.heap.size w wr) ∧ Hid (Kd.C kI wr Na xs.length xs) ∧ Hid (Kd.C kI wr Nb ys.length ys)) (fun i _ => ys.length - (intOf i).toNat)
   case atStart => exact ⟨0, rfl, Nat.zero_le _, HX, CA, CB⟩
   case round =>
    clear HX CA CB
    obtain ⟨k, rfl, hk, HX, CA, CB⟩ := hrel
    by_cases hlt : k < ys.length
    ·have d1 : decide (k < ys.length) = true := decide_eq_true hlt
     have d2 : decide ((k : Int) < (ys.length : Int)) = true := decide_eq_true (by omega)
     have HKL := Lib.hid hlt
     have hk6 : k < 5000000 := by have := HXL.out; omega
     obtain ⟨ad, hNa, pcA⟩ := cellsI CA.out (by have := HYL.out; omega)
     obtain ⟨bd, hNb, pcB⟩ := cellsI CB.out (by omega)
     subst hNa hNb
     have pa := pcA k (by rw [HYL.out]; exact hlt)
     have pb := pcB k hlt
     have hAK := HNB.out _ (getD_at (show k < xs.length by rw [HYL.out]; exact hlt) 0)
     have hBK : xs.getD k 0 = 64 * ys.getD k 0 := by rw [HNM.out]; exact getD_mapz _ (fun x => 64 * x) _ hlt
     have bk0 : (0 : Int) ≤ (k : Int) := by omega
     have bk1 : (k : Int) < (ys.length : Int) := by omega
     have bk2 : (k : Int) < (xs.length : Int) := by rw [HYL.out]; omega
     generalize xs.getD k 0 = a at *
     generalize ys.getD k 0 = b at *
     unfold Bd at hAK
     have e1 : IntKind.i64.wrap (64 * b) = 64 * b := IntWalk.i64_in _ (by omega)
     subst hBK
     have e2 : (64 * b != 64 * b) = false := by simp
     clear pcA pcB hAK hlt hk
     go_wp2_with fail
     go_quiet (fail)
     go_wp2_with fail
     exact ⟨⟨k + 1, by go_num, by have := HKL.out; omega, Lib.hid (bdrewN HX.out _), Lib.hid (Kd.C_below CA.out (bdrewN (Below.refl _ _) _)), Lib.hid (Kd.C_below CB.out (bdrewN (Below.refl _ _) _))⟩, by have := HKL.out; simp [intOf]; omega⟩
    ·have d1 : decide (k < ys.length) = false := decide_eq_false hlt
     have d2 : decide ((k : Int) < (ys.length : Int)) = false := decide_eq_false (by omega)
     clear hlt hk
     go_wp2_with fail
     go_ret
     exact ⟨rfl, HX.out⟩
end Go.Proofs.Ythpccdhmppbkfaa
/- OutlineDefault: its walk at the row's arguments. -/
set_option linter.unusedVariables false
set_option linter.unusedSimpArgs false
namespace Go.Proofs.Ythpccdhmppbkfaa
open Go.RowKit Go.Shelf Go.Proofs.YthpccdhmppbkfaaW.PrintWords Go.Proofs.YthpccdhmppbkfaaW.PrintLast Go.Proofs.YthpccdhmppbkfaaW.PrintMore
theorem outlineDefault_walk (l1 l2 l3 : List Int) (A1 A2 A3 : Option Addr) (c1 c2 c3 : Nat) (o0 o1 o2 x y : Int) (w : World) (hx : 0 ≤ x ∧ x ≤ 255) (hy : 0 ≤ y ∧ y ≤ 255) (h1 : Kd.C kI w A1 l1.length l1) (h2 : Kd.C kI w A2 l2.length l2) (h3 : Kd.C kI w A3 l3.length l3) (h4 : l2.length ≤ c2) :
  Calls Try.prog 4 #[.agg #[.slice A1 l1.length c1, .slice A2 l2.length c2, .slice A3 l3.length c3, .int .i64 o0, .int .i64 o1, .int .i64 o2, .int .u8 x, .int .u8 y]] w fun e w' => e = .returned (.bool true) ∧ Below w.heap.size w w' :=
 default_any l1 l2 l3 A1 A2 A3 c1 c2 c3 o0 o1 o2 x y w hx hy h1 h2 h3 h4
end Go.Proofs.Ythpccdhmppbkfaa
