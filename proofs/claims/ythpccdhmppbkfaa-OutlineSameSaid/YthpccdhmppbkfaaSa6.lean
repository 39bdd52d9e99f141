/- OEx, OSm, OSn, OSd, OSa: merged by wip/prune.py. -/
import Derived.Test.YthpccdhmppbkfaaSa1
import Derived.Test.YthpccdhmppbkfaaSa3
import Derived.Test.YthpccdhmppbkfaaSa4
import Derived.Test.YthpccdhmppbkfaaSa5
/- the law's example. -/
set_option linter.unusedVariables false
set_option linter.unusedSimpArgs false
set_option maxRecDepth 100000
set_option maxHeartbeats 16000000
namespace Go.Proofs.Ythpccdhmppbkfaa
open Go.RowKit Go.Shelf Go.Proofs.YthpccdhmppbkfaaW.PrintWords Go.Proofs.YthpccdhmppbkfaaW.PrintLast Go.Proofs.YthpccdhmppbkfaaW.PrintMore
def exG : Gl := ⟨[[⟨0, 0, true⟩, ⟨10, 0, true⟩, ⟨10, 20, true⟩]], [⟨1, 5, 20⟩], ⟨0, 0, 0⟩, 12, [⟨0, 4, [⟨0, 0⟩, ⟨8, 0⟩, ⟨0, 0⟩, ⟨2, 0⟩, ⟨0, 0⟩]⟩], []⟩
def exR : List (List I3) := [[⟨0, 64, 64⟩]]
def Rows_ {α : Type} (K : α → List Value → Prop) : List α → List (List Value) → Prop
 | [], [] => True
 | x :: xs, p :: ps => K x p ∧ Rows_ K xs ps
 | _, _ => False
theorem rows_at {α : Type} {K : α → List Value → Prop} {s : Nat} (hs : ∀ x p, K x p → p.length = s) : ∀ (xs : List α) (ps : List (List Value)), Rows_ K xs ps → xs.length = ps.length ∧ ∀ j x, xs[j]? = some x → ∃ p, K x p ∧ ∀ i u, p[i]? = some u → ps.flatten[j * s + i]? = some u
 | [], [], _ => ⟨rfl, fun j x h => by simp at h⟩
 | [], _ :: _, h => h.elim
 | _ :: _, [], h => h.elim
 | y :: xs, q :: ps, h => by
  obtain ⟨h1, h2⟩ := rows_at hs xs ps h.2
  refine ⟨by simp [h1], fun j x hx => ?_⟩
  have hq := hs _ _ h.1
  match j, hx with
  | 0, hx =>
   cases hx
   refine ⟨q, h.1, fun i u hu => ?_⟩
   have hi : i < q.length := (List.getElem?_eq_some_iff.1 hu).1
   rw [List.flatten_cons, Nat.zero_mul, Nat.zero_add, List.getElem?_append_left hi]
   exact hu
  | j + 1, hx =>
   obtain ⟨p, hp, hc⟩ := h2 j x (by simpa using hx)
   refine ⟨p, hp, fun i u hu => ?_⟩
   have h3 := hc i u hu
   rw [List.flatten_cons, List.getElem?_append_right (by rw [hq, Nat.add_mul]; omega), hq, Nat.add_mul, Nat.one_mul, show j * s + s + i - s = j * s + i by omega]
   exact h3
theorem C_flat {α : Type} {d : Kd α} {w : World} {g : Nat} {t : TypeId} {cs : Array Value} (xs : List α) (ps : List (List Value)) (h : Rows_ (d.K w) xs ps) (hb : Blk w g cs t) (hcs : cs = ps.flatten.toArray) (hl : xs.length ≤ 1000000) : Kd.C d w (some ⟨g, 0, none⟩) xs.length xs := by
 subst hcs
 obtain ⟨_, h2⟩ := rows_at (s := d.sz) (fun _ _ hk => d.K_len hk) xs ps h
 refine ⟨rfl, by omega, fun _ => ⟨⟨g, 0, none⟩, rfl, fun j x hx => ?_⟩⟩
 obtain ⟨p, hp, hc⟩ := h2 j x hx
 refine ⟨p, d.K_len hp, hp, fun i u hu => ?_⟩
 have h3 := hb.cell (j * d.sz + i)
 rw [add_plain, h3]
 simpa using hc i u hu
theorem kRg_mk {w : World} {x : List I3} {A : Option Addr} {c : Nat} (h1 : x.length ≤ c) (h2 : Kd.C kI3 w A x.length x) : kRg.K w x [.slice A x.length c] := ⟨A, c, rfl, h1, h2⟩
theorem kCt_mk {w : World} {x : List Pt} {A : Option Addr} {c : Nat} (h1 : x.length ≤ c) (h2 : Kd.C kPt w A x.length x) : kCt.K w x [.slice A x.length c] := ⟨A, c, rfl, h1, h2⟩
theorem example_any (w : World) : Calls Try.prog 20 #[] w fun e w' => ∃ h Ar cr, e = .returned (.tuple #[.agg (gv exG h), .slice Ar exR.length cr]) ∧ GlR w' exG h ∧ Kd.C kRg w' Ar exR.length exR ∧ exR.length ≤ cr ∧ Below w.heap.size w w' := by
 go_enter Try.func20, Try.ntmps20
 go_wp2_with fail
 obtain ⟨w1, g1, hw0_, hg0_, Xg1_, Yg1_, _⟩ := new_box w #[.slice (some ⟨w.heap.size + 1 + 1, 0, none⟩) 1 1, .slice (some ⟨w.heap.size + 1 + 1 + 1, 0, none⟩) 1 1, .int .i64 0, .int .i64 0, .int .i64 0, .int .i64 12, .slice (some ⟨w.heap.size + 1 + 1 + 1 + 1 + 1 + 1, 0, none⟩) 1 1, .slice none 0 0] 29
 obtain ⟨w2, g2, hw1_, hg1_, Xg2_, Yg2_, _⟩ := new_box w1 #[.int .i64 0, .int .i64 0, .bool true, .int .i64 10, .int .i64 0, .bool true, .int .i64 10, .int .i64 20, .bool true] 73
 obtain ⟨w3, g3, hw2_, hg2_, Xg3_, Yg3_, _⟩ := new_box w2 #[.slice (some ⟨w.heap.size + 1, 0, none⟩) 3 3] 71
 obtain ⟨w4, g4, hw3_, hg3_, Xg4_, Yg4_, _⟩ := new_box w3 #[.int .i64 1, .int .i64 5, .int .i64 20] 25
 obtain ⟨w5, g5, hw4_, hg4_, Xg5_, Yg5_, _⟩ := new_box w4 #[.slice (some ⟨w.heap.size + 1 + 1, 0, none⟩) 1 1, .slice (some ⟨w.heap.size + 1 + 1 + 1, 0, none⟩) 1 1, .int .i64 0, .int .i64 0, .int .i64 0, .int .i64 12, .slice (some ⟨w.heap.size + 1 + 1 + 1 + 1 + 1 + 1, 0, none⟩) 1 1, .slice none 0 0] 29
 obtain ⟨w6, g6, hw5_, hg5_, Xg6_, Yg6_, _⟩ := new_box w5 #[.int .i64 0, .int .i64 0, .int .i64 8, .int .i64 0, .int .i64 0, .int .i64 0, .int .i64 2, .int .i64 0, .int .i64 0, .int .i64 0] 62
 obtain ⟨w7, g7, hw6_, hg6_, Xg7_, Yg7_, _⟩ := new_box w6 #[.int .i64 0, .int .i64 4, .slice (some ⟨w.heap.size + 1 + 1 + 1 + 1 + 1, 0, none⟩) 5 5] 59
 obtain ⟨w8, g8, hw7_, hg7_, Xg8_, Yg8_, _⟩ := new_box w7 #[.int .i64 0, .int .i64 64, .int .i64 64] 92
 obtain ⟨w9, g9, hw8_, hg8_, Xg9_, Yg9_, _⟩ := new_box w8 #[.slice (some ⟨w.heap.size + 1 + 1 + 1 + 1 + 1 + 1 + 1, 0, none⟩) 1 1] 46
 have s1_ : w.heap.size + 1 = g2 := by rw [← hg1_, ← hw0_]; simp
 have s2_ : w.heap.size + 1 + 1 = g3 := by rw [← hg2_, ← hw1_, ← hw0_]; simp
 have s3_ : w.heap.size + 1 + 1 + 1 = g4 := by rw [← hg3_, ← hw2_, ← hw1_, ← hw0_]; simp
 have s4_ : w.heap.size + 1 + 1 + 1 + 1 = g5 := by rw [← hg4_, ← hw3_, ← hw2_, ← hw1_, ← hw0_]; simp
 have s5_ : w.heap.size + 1 + 1 + 1 + 1 + 1 = g6 := by rw [← hg5_, ← hw4_, ← hw3_, ← hw2_, ← hw1_, ← hw0_]; simp
 have s6_ : w.heap.size + 1 + 1 + 1 + 1 + 1 + 1 = g7 := by rw [← hg6_, ← hw5_, ← hw4_, ← hw3_, ← hw2_, ← hw1_, ← hw0_]; simp
 have s7_ : w.heap.size + 1 + 1 + 1 + 1 + 1 + 1 + 1 = g8 := by rw [← hg7_, ← hw6_, ← hw5_, ← hw4_, ← hw3_, ← hw2_, ← hw1_, ← hw0_]; simp
 have s8_ : w.heap.size + 1 + 1 + 1 + 1 + 1 + 1 + 1 + 1 = g9 := by rw [← hg8_, ← hw7_, ← hw6_, ← hw5_, ← hw4_, ← hw3_, ← hw2_, ← hw1_, ← hw0_]; simp
 rw [hw0_, hw1_, hw2_, hw3_, hw4_, hw5_, hw6_, hw7_, hw8_, s8_, s7_, s6_, s5_, s4_, s3_, s2_, s1_, hg0_]
 have Eg1 := lH_ (show g1 = w.heap.size + 0 by omega)
 have Eg2 := lH_ (show g2 = w.heap.size + 1 by omega)
 have Eg3 := lH_ (show g3 = w.heap.size + 2 by omega)
 have Eg4 := lH_ (show g4 = w.heap.size + 3 by omega)
 have Eg5 := lH_ (show g5 = w.heap.size + 4 by omega)
 have Eg6 := lH_ (show g6 = w.heap.size + 5 by omega)
 have Eg7 := lH_ (show g7 = w.heap.size + 6 by omega)
 have Eg8 := lH_ (show g8 = w.heap.size + 7 by omega)
 have Eg9 := lH_ (show g9 = w.heap.size + 8 by omega)
 clear hw0_ hg0_ hw1_ hg1_ hw2_ hg2_ hw3_ hg3_ hw4_ hg4_ hw5_ hg5_ hw6_ hg6_ hw7_ hg7_ hw8_ hg8_ s1_ s2_ s3_ s4_ s5_ s6_ s7_ s8_
 have HXw9 := lH_ (bthen' (bthen' (bthen' (bthen' (bthen' (bthen' (bthen' (bthen' (Yg1_.out) Yg2_.out) Yg3_.out) Yg4_.out) Yg5_.out) Yg6_.out) Yg7_.out) Yg8_.out) Yg9_.out)
 have Bg1 := lH_ (((((((((Xg1_.out).below Yg2_.out).below Yg3_.out).below Yg4_.out).below Yg5_.out).below Yg6_.out).below Yg7_.out).below Yg8_.out).below Yg9_.out)
 have Bg2 := lH_ ((((((((Xg2_.out).below Yg3_.out).below Yg4_.out).below Yg5_.out).below Yg6_.out).below Yg7_.out).below Yg8_.out).below Yg9_.out)
 have Bg3 := lH_ (((((((Xg3_.out).below Yg4_.out).below Yg5_.out).below Yg6_.out).below Yg7_.out).below Yg8_.out).below Yg9_.out)
 have Bg4 := lH_ ((((((Xg4_.out).below Yg5_.out).below Yg6_.out).below Yg7_.out).below Yg8_.out).below Yg9_.out)
 have Bg5 := lH_ (((((Xg5_.out).below Yg6_.out).below Yg7_.out).below Yg8_.out).below Yg9_.out)
 have Bg6 := lH_ ((((Xg6_.out).below Yg7_.out).below Yg8_.out).below Yg9_.out)
 have Bg7 := lH_ (((Xg7_.out).below Yg8_.out).below Yg9_.out)
 have Bg8 := lH_ ((Xg8_.out).below Yg9_.out)
 have Bg9 := lH_ (Xg9_.out)
 clear Xg1_ Yg1_ Xg2_ Yg2_ Xg3_ Yg3_ Xg4_ Yg4_ Xg5_ Yg5_ Xg6_ Yg6_ Xg7_ Yg7_ Xg8_ Yg8_ Xg9_ Yg9_
 have e1 : w.heap.size + 1 = g2 := by have := Eg2.out; omega
 have e2 : w.heap.size + 1 + 1 = g3 := by have := Eg3.out; omega
 have e3 : w.heap.size + 1 + 1 + 1 = g4 := by have := Eg4.out; omega
 have e5 : w.heap.size + 1 + 1 + 1 + 1 + 1 = g6 := by have := Eg6.out; omega
 have e6 : w.heap.size + 1 + 1 + 1 + 1 + 1 + 1 = g7 := by have := Eg7.out; omega
 have e7 : w.heap.size + 1 + 1 + 1 + 1 + 1 + 1 + 1 = g8 := by have := Eg8.out; omega
 have e8 : w.heap.size + 1 + 1 + 1 + 1 + 1 + 1 + 1 + 1 = g9 := by have := Eg9.out; omega
 rw [e6, e3, e2] at Bg1 Bg5
 rw [e1] at Bg3
 rw [e5] at Bg7
 rw [e7] at Bg9
 have hP : Kd.C kPt w9 (some ⟨g2, 0, none⟩) 3 [⟨0, 0, true⟩, ⟨10, 0, true⟩, ⟨10, 20, true⟩] := C_flat _ [[.int .i64 0, .int .i64 0, .bool true], [.int .i64 10, .int .i64 0, .bool true], [.int .i64 10, .int .i64 20, .bool true]] ⟨kPt_mk _ ⟨0, 0, true⟩, kPt_mk _ ⟨10, 0, true⟩, kPt_mk _ ⟨10, 20, true⟩, trivial⟩ Bg2.out rfl (by decide)
 have hM : Kd.C kI2 w9 (some ⟨g6, 0, none⟩) 5 [⟨0, 0⟩, ⟨8, 0⟩, ⟨0, 0⟩, ⟨2, 0⟩, ⟨0, 0⟩] := C_flat _ [[.int .i64 0, .int .i64 0], [.int .i64 8, .int .i64 0], [.int .i64 0, .int .i64 0], [.int .i64 2, .int .i64 0], [.int .i64 0, .int .i64 0]] ⟨kI2_mk _ ⟨0, 0⟩, kI2_mk _ ⟨8, 0⟩, kI2_mk _ ⟨0, 0⟩, kI2_mk _ ⟨2, 0⟩, kI2_mk _ ⟨0, 0⟩, trivial⟩ Bg6.out rfl (by decide)
 have hT : Kd.C kI3 w9 (some ⟨g8, 0, none⟩) 1 [⟨0, 64, 64⟩] := C_flat _ [[.int .i64 0, .int .i64 64, .int .i64 64]] ⟨kI3_mk _ ⟨0, 64, 64⟩, trivial⟩ Bg8.out rfl (by decide)
 have hA : Kd.C kI3 w9 (some ⟨g4, 0, none⟩) 1 [⟨1, 5, 20⟩] := C_flat _ [[.int .i64 1, .int .i64 5, .int .i64 20]] ⟨kI3_mk _ ⟨1, 5, 20⟩, trivial⟩ Bg4.out rfl (by decide)
 have hCt : Kd.C kCt w9 (some ⟨g3, 0, none⟩) 1 exG.ct := C_flat _ [[.slice (some ⟨g2, 0, none⟩) 3 3]] ⟨kCt_mk (by decide) hP, trivial⟩ Bg3.out rfl (by decide)
 have hDl : Kd.C kDl w9 (some ⟨g7, 0, none⟩) 1 exG.dl := C_flat _ [[.int .i64 0, .int .i64 4, .slice (some ⟨g6, 0, none⟩) 5 5]] ⟨kDl_mk (x := ⟨0, 4, [⟨0, 0⟩, ⟨8, 0⟩, ⟨0, 0⟩, ⟨2, 0⟩, ⟨0, 0⟩]⟩) (by decide) hM, trivial⟩ Bg7.out rfl (by decide)
 have hRg : Kd.C kRg w9 (some ⟨g9, 0, none⟩) 1 exR := C_flat _ [[.slice (some ⟨g8, 0, none⟩) 1 1]] ⟨kRg_mk (by decide) hT, trivial⟩ Bg9.out rfl (by decide)
 refine bodyPost_ret (res_ct (g := g1) rfl _ _ _ _ _ rfl Bg1.out rfl Try.underlying29 (by kernel_rfl)) rfl ⟨⟨_, 1, _, 1, _, 1, none, 0⟩, _, 1, rfl, ⟨hCt, hA, hDl, ⟨rfl, by decide, fun h => absurd h (by decide)⟩, Nat.le_refl 1, Nat.le_refl 1, Nat.le_refl 1, Nat.le_refl 0⟩, hRg, Nat.le_refl _, by have h := HXw9.out; rw [show w.heap.size = g1 by have := Eg1.out; omega] at h; exact h⟩
/- outline's sameDelta, EqualFunc of deltas, Same. -/
theorem sameDl_any (x y : Dl) (A : Option Addr) (c : Nat) (B : Option Addr) (d : Nat) (w : World) (hC : Kd.C kI2 w A x.moves.length x.moves) (hD : Kd.C kI2 w B y.moves.length y.moves) : Calls Try.prog 33 #[.agg #[.int .i64 x.region, .int .i64 x.adv, .slice A x.moves.length c], .agg #[.int .i64 y.region, .int .i64 y.adv, .slice B y.moves.length d]] w fun e w' => e = .returned (.bool (decide (x = y))) ∧ Below w.heap.size w w' := by
 have HC := lH_ hC
 have HD := lH_ hD
 clear hC hD
 obtain ⟨r, a, m⟩ := x
 obtain ⟨r2, a2, m2⟩ := y
 dsimp only at HC HD ⊢
 have HE : Hid (decide ((⟨r, a, m⟩ : Dl) = ⟨r2, a2, m2⟩) = ((r == r2) && ((a == a2) && decide (m = m2)))) := lH_ (by
  rw [Bool.eq_iff_iff]; simp)
 rw [HE.out]
 clear HE
 go_enter Try.func33, Try.ntmps33
 go_upto_region 1 with fail
 obtain ⟨w1, g1, hw0_, hg0_, Xg1_, Yg1_, _⟩ := new_box w #[.int .i64 r, .int .i64 a, .slice A m.length c] 59
 obtain ⟨w2, g2, hw1_, hg1_, Xg2_, Yg2_, _⟩ := new_box w1 #[.int .i64 r2, .int .i64 a2, .slice B m2.length d] 59
 have s1_ : w.heap.size + 1 = g2 := by rw [← hg1_, ← hw0_]; simp
 rw [hw0_, hw1_, s1_, hg0_]
 have Eg1 := lH_ (show g1 = w.heap.size + 0 by omega)
 have Eg2 := lH_ (show g2 = w.heap.size + 1 by omega)
 clear hw0_ hg0_ hw1_ hg1_ s1_
 have HXw2 := lH_ (bthen' (Yg1_.out) Yg2_.out)
 have Bg1 := lH_ ((Xg1_.out).below Yg2_.out)
 have Bg2 := lH_ (Xg2_.out)
 clear Xg1_ Yg1_ Xg2_ Yg2_
 have c0 := Bg1.out.cell 0
 have c1 := Bg1.out.cell 1
 have c2 := Bg1.out.cell 2
 simp only [gA_, gZ_, gS_] at c0 c1 c2
 have d0 := Bg2.out.cell 0
 have d1 := Bg2.out.cell 1
 have d2 := Bg2.out.cell 2
 simp only [gA_, gZ_, gS_] at d0 d1 d2
 by_cases h1 : r = r2
 ·subst h1
  by_cases h2 : a = a2
  ·subst h2
   have HQ := lH_ (eqM_any m m2 A c B d w2 (Kd.C_below HC.out HXw2.out) (Kd.C_below HD.out HXw2.out))
   go_wp2_with fail
   refine HQ.out.mono ?_
   rintro e w3 ⟨rfl, hb⟩
   have HB := lH_ (bthen' HXw2.out hb)
   clear hb
   go_wp2_with fail
   go_ret
   exact ⟨ret_bool (by simp), HB.out⟩
  ·have d2 : decide (a = a2) = false := decide_eq_false h2
   have d2' : (a == a2) = false := by simpa using h2
   go_wp2_with fail
   go_ret
   exact ⟨ret_bool (by simp [d2']), HXw2.out⟩
 ·have d2 : decide (r = r2) = false := decide_eq_false h1
  have d2' : (r == r2) = false := by simpa using h1
  go_wp2_with fail
  go_ret
  exact ⟨ret_bool (by simp [d2']), HXw2.out⟩
theorem eqD_any (l m : List Dl) (A : Option Addr) (c : Nat) (B : Option Addr) (d : Nat) (w : World) (hC : Kd.C kDl w A l.length l) (hD : Kd.C kDl w B m.length m) : Calls Try.prog 32 #[.slice A l.length c, .slice B m.length d, .func (.func 33) #[] #[]] w fun e w' => e = .returned (.bool (decide (l = m))) ∧ Below w.heap.size w w' := by
 have HC := lH_ hC
 have HD := lH_ hD
 have hml : l.length ≤ 9223372036854775807 := hC.2.1
 have hmm : m.length ≤ 9223372036854775807 := hD.2.1
 clear hC hD
 by_cases hlen : l.length = m.length
 case neg =>
  have HE : Hid (decide (l = m) = false) := lH_ (decide_eq_false (fun h => hlen (by rw [h])))
  have d0 : ((l.length : Int) != (m.length : Int)) = true := by simp; omega
  have d1 : decide ((l.length : Int) = (m.length : Int)) = false := decide_eq_false (by omega)
  have d2 : decide (l.length = m.length) = false := decide_eq_false hlen
  have d3 : (l.length == m.length) = false := by simpa using hlen
  clear hlen
  go_enter Try.func32, Try.ntmps32
  go_wp2_with fail
  go_ret
  exact ⟨ret_bool HE.out.symm, Below.refl _ _⟩
 have HLN := lH_ hlen
 have d0 : ((l.length : Int) != (m.length : Int)) = false := by simp; omega
 have d1 : decide ((l.length : Int) = (m.length : Int)) = true := decide_eq_true (by omega)
 have d2 : decide (l.length = m.length) = true := decide_eq_true hlen
 have d3 : (l.length == m.length) = true := by simpa using hlen
 clear hlen
 go_enter Try.func32, Try.ntmps32
 go_wp2_with fail
 clear d0 d1 d2 d3
 go_loopw [17] (fun i wr => ∃ k : Nat, i = .int .i64 k ∧ k ≤ l.length ∧ Hid (l.take k = m.take k) ∧ Hid (Below w.heap.size w wr)) (fun i _ => l.length - (intOf i).toNat)
 case atStart => exact ⟨0, rfl, Nat.zero_le _, lH_ rfl, lH_ (Below.refl _ _)⟩
 case round =>
  obtain ⟨k, rfl, hk, HT, HBr⟩ := hrel
  by_cases hlt : k < l.length
  ·have d1 : decide (k < l.length) = true := decide_eq_true hlt
   obtain ⟨ad, c0, c1, c2, rfl, hK, p0, p1, p2⟩ := el3 (d := kDl) rfl (Kd.C_below HC.out HBr.out) zDl k hlt
   obtain ⟨Ai, ci, hcs, _, hM⟩ := kDl_open hK
   simp only [List.cons.injEq, and_true] at hcs
   obtain ⟨rfl, rfl, rfl⟩ := hcs
   have hlt2 : k < m.length := by rw [← HLN.out]; exact hlt
   obtain ⟨bd, c0, c1, c2, rfl, hK2, q0, q1, q2⟩ := el3 (d := kDl) rfl (Kd.C_below HD.out HBr.out) zDl k hlt2
   obtain ⟨Bi, di, hcs, _, hN⟩ := kDl_open hK2
   simp only [List.cons.injEq, and_true] at hcs
   obtain ⟨rfl, rfl, rfl⟩ := hcs
   have HY := lH_ (fun h => eq_take_succ l m zDl k hlt hlt2 HT.out h)
   have HN := lH_ (fun h => decide_eq_false (@ne_getD _ l m zDl k h))
   generalize l.getD k zDl = a at *
   generalize m.getD k zDl = b at *
   have b0 : (0 : Int) ≤ (k : Int) := by omega
   have b1 : (k : Int) < (l.length : Int) := by omega
   have b2 : (k : Int) < (m.length : Int) := by omega
   have HQ := lH_ (fun W (hW : Below wr.heap.size wr W) => sameDl_any a b Ai ci Bi di W (Kd.C_below hM hW) (Kd.C_below hN hW))
   clear hK hK2 HT hlt2 hM hN
   go_upto_region 6 with fail
   obtain ⟨w1, g1, hw, hg, B1, X1, _⟩ := new_box wr #[.int .i64 a.region, .int .i64 a.adv, .slice Ai a.moves.length ci] 59
   rw [hw, hg]
   clear hw hg p0 p1 p2
   replace q0 := pw_cell_below X1.out q0
   replace q1 := pw_cell_below X1.out q1
   replace q2 := pw_cell_below X1.out q2
   go_upto_region 7 with fail
   obtain ⟨w2, g2, hw, hg, B2, X2, _⟩ := new_box w1 #[.int .i64 b.region, .int .i64 b.adv, .slice Bi b.moves.length di] 59
   rw [hw, hg]
   clear hw hg q0 q1 q2
   have X12 := lH_ (bthen' X1.out X2.out)
   have B12 := lH_ (B1.out.below X2.out)
   have c0 := B12.out.cell 0
   have c1 := B12.out.cell 1
   have c2 := B12.out.cell 2
   have e0 := B2.out.cell 0
   have e1 := B2.out.cell 1
   have e2 := B2.out.cell 2
   simp only [gA_, gZ_, gS_] at c0 c1 c2 e0 e1 e2
   go_wp2_with fail
   refine (HQ.out w2 X12.out).mono ?_
   rintro e w3 ⟨rfl, hb⟩
   have HB3 := lH_ (bthen' HBr.out (bthen' X12.out hb))
   clear hb c0 c1 c2 e0 e1 e2
   by_cases hab : a = b
   ·have HE := lH_ (HY.out hab)
    rw [decide_eq_true hab]
    clear hab
    go_wp2_with fail
    exact ⟨⟨k + 1, by go_num, by omega, HE, HB3⟩, by simp [intOf]; omega⟩
   ·have HE := lH_ (HN.out hab)
    rw [decide_eq_false hab]
    clear hab
    go_wp2_with fail
    go_ret
    exact ⟨ret_bool HE.out.symm, HB3.out⟩
  ·have d1 : decide (k < l.length) = false := decide_eq_false hlt
   have HE : Hid (decide (l = m) = true) := lH_ (decide_eq_true (by have h := HT.out; rwa [List.take_of_length_le (by omega), List.take_of_length_le (by have := HLN.out; omega)] at h))
   clear hlt
   go_wp2_with fail
   go_ret
   exact ⟨ret_bool HE.out.symm, HBr.out⟩
theorem eqAn (d : Nat) (w : World) (x0 y0 x1 y1 x2 y2 : Int) : (Op.equalIn (d + 2) 25 (.agg #[.int .i64 x0, .int .i64 x1, .int .i64 x2]) (.agg #[.int .i64 y0, .int .i64 y1, .int .i64 y2])).run Try.prog w = .ok (x0 == y0 && (x1 == y1 && (x2 == y2))) w := by
 refine eqA_of Try.underlying25 (by kernel_rfl) ?_
 refine eqf_cons (by rfl) (by go_simp; rfl) (by go_simp; rfl) (by go_simp) ?_
 refine eqf_cons (by rfl) (by go_simp; rfl) (by go_simp; rfl) (by go_simp) ?_
 exact eqf_last (by rfl) (by go_simp; rfl) (by go_simp; rfl) (by go_simp)
attribute [local go_sem high] eqAn
theorem hangEq (a b : I3) : decide (a = b) = (a.a == b.a && (a.b == b.b && (a.c == b.c))) := by
 obtain ⟨x, y, z⟩ := a
 obtain ⟨u, v, t⟩ := b
 rw [Bool.eq_iff_iff]; simp
def sameB (g x : Gl) : Bool := ((decide (g.ct = x.ct) && decide (g.an = x.an)) && ((decide (g.hang = x.hang) && decide (g.adv = x.adv)) && decide (g.pr = x.pr))) && decide (g.dl = x.dl)
theorem same_any (g x : Gl) (h y : Hd) (w : World) (hg : GlR w g h) (hx : GlR w x y) : Calls Try.prog 11 #[.agg (gv g h), .agg (gv x y)] w fun e w' => e = .returned (.bool (sameB g x)) ∧ Below w.heap.size w w' := by
 have HG := lH_ hg
 have HK := lH_ hx
 have HE : Hid (sameB g x = (((decide (g.ct = x.ct) && decide (g.an = x.an)) && ((decide (g.hang = x.hang) && decide (g.adv = x.adv)) && decide (g.pr = x.pr))) && decide (g.dl = x.dl))) := lH_ rfl
 clear hg hx
 unfold gv
 go_enter Try.func11, Try.ntmps11
 go_upto_region 1 with fail
 obtain ⟨w1, gA, hw0_, hg0_, XgA_, YgA_, _⟩ := new_box w #[.slice h.a1 g.ct.length h.c1, .slice h.a2 g.an.length h.c2, .int .i64 g.hang.a, .int .i64 g.hang.b, .int .i64 g.hang.c, .int .i64 g.adv, .slice h.a3 g.dl.length h.c3, .slice h.a4 g.pr.length h.c4] 29
 obtain ⟨w2, gB, hw1_, hg1_, XgB_, YgB_, _⟩ := new_box w1 #[.slice y.a1 x.ct.length y.c1, .slice y.a2 x.an.length y.c2, .int .i64 x.hang.a, .int .i64 x.hang.b, .int .i64 x.hang.c, .int .i64 x.adv, .slice y.a3 x.dl.length y.c3, .slice y.a4 x.pr.length y.c4] 29
 have s1_ : w.heap.size + 1 = gB := by rw [← hg1_, ← hw0_]; simp
 rw [hw0_, hw1_, s1_, hg0_]
 have EgA := lH_ (show gA = w.heap.size + 0 by omega)
 have EgB := lH_ (show gB = w.heap.size + 1 by omega)
 clear hw0_ hg0_ hw1_ hg1_ s1_
 have HXw2 := lH_ (bthen' (YgA_.out) YgB_.out)
 have BgA := lH_ ((XgA_.out).below YgB_.out)
 have BgB := lH_ (XgB_.out)
 clear XgA_ YgA_ XgB_ YgB_
 have HX := HXw2
 clear HXw2
 have c0 := BgA.out.cell 0
 simp only [gA_, gZ_, gS_] at c0
 have d0 := BgB.out.cell 0
 simp only [gA_, gZ_, gS_] at d0
 go_wp2_with fail
 refine (eqC_any g.ct x.ct h.a1 h.c1 y.a1 y.c1 _ (HG.out.below HX.out).ct (HK.out.below HX.out).ct).mono ?_
 rintro e v3 ⟨rfl, hb⟩
 replace HX := lH_ (bthen' HX.out hb)
 replace BgA := lH_ (BgA.out.below hb)
 replace BgB := lH_ (BgB.out.below hb)
 clear hb
 clear c0 d0
 rcases Bool.eq_false_or_eq_true (decide (g.ct = x.ct)) with q1 | q1
 ·rw [q1]
  have HC := lH_ q1
  clear q1
  have c1 := BgA.out.cell 1
  simp only [gA_, gZ_, gS_] at c1
  have d1 := BgB.out.cell 1
  simp only [gA_, gZ_, gS_] at d1
  go_wp2_with fail
  refine (eqA_any g.an x.an h.a2 h.c2 y.a2 y.c2 _ (HG.out.below HX.out).an (HK.out.below HX.out).an).mono ?_
  rintro e v4 ⟨rfl, hb⟩
  replace HX := lH_ (bthen' HX.out hb)
  replace BgA := lH_ (BgA.out.below hb)
  replace BgB := lH_ (BgB.out.below hb)
  clear hb
  clear c1 d1
  rcases Bool.eq_false_or_eq_true (decide (g.an = x.an)) with q2 | q2
  ·rw [q2]
   have HA := lH_ q2
   clear q2
   have c2 := BgA.out.cell 2
   have c3 := BgA.out.cell 3
   have c4 := BgA.out.cell 4
   simp only [gA_, gZ_, gS_] at c2 c3 c4
   have d2 := BgB.out.cell 2
   have d3 := BgB.out.cell 3
   have d4 := BgB.out.cell 4
   simp only [gA_, gZ_, gS_] at d2 d3 d4
   rcases Bool.eq_false_or_eq_true (g.hang.a == x.hang.a && (g.hang.b == x.hang.b && (g.hang.c == x.hang.c))) with qh | qh
   ·have HH := lH_ ((hangEq g.hang x.hang).trans qh)
    by_cases hv : g.adv = x.adv
    ·have dv : (g.adv == x.adv) = true := by simpa using hv
     have dv2 : decide (g.adv = x.adv) = true := decide_eq_true hv
     have HV := lH_ dv2
     clear hv
     have c5 := BgA.out.cell 5
     have c7 := BgA.out.cell 7
     simp only [gA_, gZ_, gS_] at c5 c7
     have d5 := BgB.out.cell 5
     have d7 := BgB.out.cell 7
     simp only [gA_, gZ_, gS_] at d5 d7
     go_wp2_with fail
     refine (eqI_any g.pr x.pr h.a4 h.c4 y.a4 y.c4 _ (HG.out.below HX.out).pr (HK.out.below HX.out).pr).mono ?_
     rintro e v8 ⟨rfl, hb⟩
     replace HX := lH_ (bthen' HX.out hb)
     replace BgA := lH_ (BgA.out.below hb)
     replace BgB := lH_ (BgB.out.below hb)
     clear hb
     clear c5 d5 c7 d7
     rcases Bool.eq_false_or_eq_true (decide (g.pr = x.pr)) with qp | qp
     ·rw [qp]
      have HP := lH_ qp
      clear qp
      have c6 := BgA.out.cell 6
      simp only [gA_, gZ_, gS_] at c6
      have d6 := BgB.out.cell 6
      simp only [gA_, gZ_, gS_] at d6
      go_wp2_with fail
      refine (eqD_any g.dl x.dl h.a3 h.c3 y.a3 y.c3 _ (HG.out.below HX.out).dl (HK.out.below HX.out).dl).mono ?_
      rintro e v9 ⟨rfl, hb⟩
      replace HX := lH_ (bthen' HX.out hb)
      replace BgA := lH_ (BgA.out.below hb)
      replace BgB := lH_ (BgB.out.below hb)
      clear hb
      clear c6 d6
      go_wp2_with fail
      go_ret
      exact ⟨ret_bool (by rw [HE.out]; simp only [HC.out, HA.out, HH.out, HV.out, HP.out]; rfl), HX.out⟩
     ·rw [qp]
      have HP := lH_ qp
      clear qp
      go_wp2_with fail
      go_ret
      exact ⟨ret_bool (by rw [HE.out]; simp only [HC.out, HA.out, HH.out, HV.out, HP.out]; rfl), HX.out⟩
    ·have dv : (g.adv == x.adv) = false := by simpa using hv
     have dv2 : decide (g.adv = x.adv) = false := decide_eq_false hv
     have HV := lH_ dv2
     clear hv
     have c5 := BgA.out.cell 5
     simp only [gA_, gZ_, gS_] at c5
     have d5 := BgB.out.cell 5
     simp only [gA_, gZ_, gS_] at d5
     go_wp2_with fail
     go_ret
     exact ⟨ret_bool (by rw [HE.out]; simp only [HC.out, HA.out, HH.out, HV.out]; rfl), HX.out⟩
   ·have HH := lH_ ((hangEq g.hang x.hang).trans qh)
    go_wp2_with fail
    go_ret
    exact ⟨ret_bool (by rw [HE.out]; simp only [HC.out, HA.out, HH.out]; rfl), HX.out⟩
  ·rw [q2]
   have HA := lH_ q2
   clear q2
   have c2 := BgA.out.cell 2
   have c3 := BgA.out.cell 3
   have c4 := BgA.out.cell 4
   simp only [gA_, gZ_, gS_] at c2 c3 c4
   have d2 := BgB.out.cell 2
   have d3 := BgB.out.cell 3
   have d4 := BgB.out.cell 4
   simp only [gA_, gZ_, gS_] at d2 d3 d4
   rcases Bool.eq_false_or_eq_true (g.hang.a == x.hang.a && (g.hang.b == x.hang.b && (g.hang.c == x.hang.c))) with qh | qh
   ·have HH := lH_ ((hangEq g.hang x.hang).trans qh)
    by_cases hv : g.adv = x.adv
    ·have dv : (g.adv == x.adv) = true := by simpa using hv
     have dv2 : decide (g.adv = x.adv) = true := decide_eq_true hv
     have HV := lH_ dv2
     clear hv
     have c5 := BgA.out.cell 5
     have c7 := BgA.out.cell 7
     simp only [gA_, gZ_, gS_] at c5 c7
     have d5 := BgB.out.cell 5
     have d7 := BgB.out.cell 7
     simp only [gA_, gZ_, gS_] at d5 d7
     go_wp2_with fail
     refine (eqI_any g.pr x.pr h.a4 h.c4 y.a4 y.c4 _ (HG.out.below HX.out).pr (HK.out.below HX.out).pr).mono ?_
     rintro e v8 ⟨rfl, hb⟩
     replace HX := lH_ (bthen' HX.out hb)
     replace BgA := lH_ (BgA.out.below hb)
     replace BgB := lH_ (BgB.out.below hb)
     clear hb
     clear c5 d5 c7 d7
     rcases Bool.eq_false_or_eq_true (decide (g.pr = x.pr)) with qp | qp
     ·rw [qp]
      have HP := lH_ qp
      clear qp
      go_wp2_with fail
      go_ret
      exact ⟨ret_bool (by rw [HE.out]; simp only [HC.out, HA.out, HH.out, HV.out, HP.out]; rfl), HX.out⟩
     ·rw [qp]
      have HP := lH_ qp
      clear qp
      go_wp2_with fail
      go_ret
      exact ⟨ret_bool (by rw [HE.out]; simp only [HC.out, HA.out, HH.out, HV.out, HP.out]; rfl), HX.out⟩
    ·have dv : (g.adv == x.adv) = false := by simpa using hv
     have dv2 : decide (g.adv = x.adv) = false := decide_eq_false hv
     have HV := lH_ dv2
     clear hv
     have c5 := BgA.out.cell 5
     simp only [gA_, gZ_, gS_] at c5
     have d5 := BgB.out.cell 5
     simp only [gA_, gZ_, gS_] at d5
     go_wp2_with fail
     go_ret
     exact ⟨ret_bool (by rw [HE.out]; simp only [HC.out, HA.out, HH.out, HV.out]; rfl), HX.out⟩
   ·have HH := lH_ ((hangEq g.hang x.hang).trans qh)
    go_wp2_with fail
    go_ret
    exact ⟨ret_bool (by rw [HE.out]; simp only [HC.out, HA.out, HH.out]; rfl), HX.out⟩
 ·rw [q1]
  have HC := lH_ q1
  clear q1
  have c2 := BgA.out.cell 2
  have c3 := BgA.out.cell 3
  have c4 := BgA.out.cell 4
  simp only [gA_, gZ_, gS_] at c2 c3 c4
  have d2 := BgB.out.cell 2
  have d3 := BgB.out.cell 3
  have d4 := BgB.out.cell 4
  simp only [gA_, gZ_, gS_] at d2 d3 d4
  rcases Bool.eq_false_or_eq_true (g.hang.a == x.hang.a && (g.hang.b == x.hang.b && (g.hang.c == x.hang.c))) with qh | qh
  ·have HH := lH_ ((hangEq g.hang x.hang).trans qh)
   by_cases hv : g.adv = x.adv
   ·have dv : (g.adv == x.adv) = true := by simpa using hv
    have dv2 : decide (g.adv = x.adv) = true := decide_eq_true hv
    have HV := lH_ dv2
    clear hv
    have c5 := BgA.out.cell 5
    have c7 := BgA.out.cell 7
    simp only [gA_, gZ_, gS_] at c5 c7
    have d5 := BgB.out.cell 5
    have d7 := BgB.out.cell 7
    simp only [gA_, gZ_, gS_] at d5 d7
    go_wp2_with fail
    refine (eqI_any g.pr x.pr h.a4 h.c4 y.a4 y.c4 _ (HG.out.below HX.out).pr (HK.out.below HX.out).pr).mono ?_
    rintro e v8 ⟨rfl, hb⟩
    replace HX := lH_ (bthen' HX.out hb)
    replace BgA := lH_ (BgA.out.below hb)
    replace BgB := lH_ (BgB.out.below hb)
    clear hb
    clear c5 d5 c7 d7
    rcases Bool.eq_false_or_eq_true (decide (g.pr = x.pr)) with qp | qp
    ·rw [qp]
     have HP := lH_ qp
     clear qp
     go_wp2_with fail
     go_ret
     exact ⟨ret_bool (by rw [HE.out]; simp only [HC.out, HH.out, HV.out, HP.out]; rfl), HX.out⟩
    ·rw [qp]
     have HP := lH_ qp
     clear qp
     go_wp2_with fail
     go_ret
     exact ⟨ret_bool (by rw [HE.out]; simp only [HC.out, HH.out, HV.out, HP.out]; rfl), HX.out⟩
   ·have dv : (g.adv == x.adv) = false := by simpa using hv
    have dv2 : decide (g.adv = x.adv) = false := decide_eq_false hv
    have HV := lH_ dv2
    clear hv
    have c5 := BgA.out.cell 5
    simp only [gA_, gZ_, gS_] at c5
    have d5 := BgB.out.cell 5
    simp only [gA_, gZ_, gS_] at d5
    go_wp2_with fail
    go_ret
    exact ⟨ret_bool (by rw [HE.out]; simp only [HC.out, HH.out, HV.out]; rfl), HX.out⟩
  ·have HH := lH_ ((hangEq g.hang x.hang).trans qh)
   go_wp2_with fail
   go_ret
   exact ⟨ret_bool (by rw [HE.out]; simp only [HC.out, HH.out]; rfl), HX.out⟩
end Go.Proofs.Ythpccdhmppbkfaa
/- the law's has and sanity. -/
namespace Go.Proofs.Ythpccdhmppbkfaa
open Go.RowKit Go.Shelf Go.Proofs.YthpccdhmppbkfaaW.PrintWords Go.Proofs.YthpccdhmppbkfaaW.PrintLast Go.Proofs.YthpccdhmppbkfaaW.PrintMore
attribute [local go_sem high] eqAn
theorem exFew : exG.few := by refine ⟨by decide, by decide, by decide, by decide, by decide, fun d hd => ?_⟩; simp [exG] at hd; subst hd; decide
theorem eqPn (d : Nat) (w : World) (x0 y0 x1 y1 : Int) (x2 y2 : Bool) : (Op.equalIn (d + 2) 73 (.agg #[.int .i64 x0, .int .i64 x1, .bool x2]) (.agg #[.int .i64 y0, .int .i64 y1, .bool y2])).run Try.prog w = .ok (x0 == y0 && (x1 == y1 && (x2 == y2))) w := by
 refine eqA_of Try.underlying73 (by kernel_rfl) ?_
 refine eqf_cons (by rfl) (by go_simp; rfl) (by go_simp; rfl) (by go_simp) ?_
 refine eqf_cons (by rfl) (by go_simp; rfl) (by go_simp; rfl) (by go_simp) ?_
 exact eqf_last (by rfl) (by go_simp; rfl) (by go_simp; rfl) (by go_simp)
attribute [local go_sem high] eqPn
theorem has_any (v x a d : Int) (p0 p2 : Pt) (hE : atE exG exR [v] = 0) (hC : atC exG exR [v] = [[p0, ⟨x, 0, true⟩, p2]]) (hA : atA exG exR [v] = [⟨1, a, 1280⟩]) (hX : atX exG exR [v] = 0) (hY : atY exG exR [v] = 0) (hV : atV exG exR [v] = d) (w : World) : Calls Try.prog 23 #[.int .i64 v, .int .i64 x, .int .i64 a, .int .i64 d] w fun e w' => e = .returned (.bool true) ∧ Below w.heap.size w w' := by
 have HE := lH_ hE
 have HC := lH_ hC
 have HA := lH_ hA
 have HXX := lH_ hX
 have HYY := lH_ hY
 have HVV := lH_ hV
 clear hE hC hA hX hY hV
 go_enter Try.func23, Try.ntmps23
 go_wp2_with fail
 refine (example_any w).mono ?_
 rintro e v1 ⟨h, Ar, cr, rfl, hG, hR, hcr, hb⟩
 obtain ⟨q1, m1, q2, m2, q3, m3, q4, m4⟩ := h
 rw [show gv exG ⟨q1, m1, q2, m2, q3, m3, q4, m4⟩ = #[.slice q1 1 m1, .slice q2 1 m2, .int .i64 0, .int .i64 0, .int .i64 0, .int .i64 12, .slice q3 1 m3, .slice q4 0 m4] from rfl, show exR.length = 1 from rfl]
 have HX := lH_ hb
 have HGL := lH_ hG
 have HRR := lH_ hR
 clear hb hG hR hcr
 go_upto_region 2 with fail
 obtain ⟨v2, gG, hw0_, hg0_, XgG_, YgG_, _⟩ := new_box v1 #[.slice q1 1 m1, .slice q2 1 m2, .int .i64 0, .int .i64 0, .int .i64 0, .int .i64 12, .slice q3 1 m3, .slice q4 0 m4] 29
 rw [hw0_, hg0_]
 have EgG := lH_ (show gG = v1.heap.size + 0 by omega)
 clear hw0_ hg0_
 have HXv2 := lH_ (YgG_.out)
 have BgG := lH_ (XgG_.out)
 clear XgG_ YgG_
 have c0 := BgG.out.cell 0
 have c1 := BgG.out.cell 1
 have c2 := BgG.out.cell 2
 have c3 := BgG.out.cell 3
 have c4 := BgG.out.cell 4
 have c5 := BgG.out.cell 5
 have c6 := BgG.out.cell 6
 have c7 := BgG.out.cell 7
 simp only [gA_, gZ_, gS_] at c0 c1 c2 c3 c4 c5 c6 c7
 go_wp2_with fail
 obtain ⟨v3, gI, hw0_, hg0_, XgI_, YgI_, _⟩ := new_box v2 #[.int .i64 v] 3
 rw [hw0_, hg0_]
 have EgI := lH_ (show gI = v2.heap.size + 0 by omega)
 clear hw0_ hg0_
 have HXv3 := lH_ (YgI_.out)
 have BgI := lH_ (XgI_.out)
 clear XgI_ YgI_
 have HX3 := lH_ (bthen' HX.out (bthen' HXv2.out HXv3.out))
 have HX13 := lH_ (bthen' HXv2.out HXv3.out)
 have BgG3 := lH_ (BgG.out.below HXv3.out)
 clear c0 c1 c2 c3 c4 c5 c6 c7
 refine (at_any exG ⟨q1, m1, q2, m2, q3, m3, q4, m4⟩ exR Ar cr [v] (some ⟨gI, 0, none⟩) 1 v3 (HGL.out.below HX13.out) exFew (Kd.C_below HRR.out HX13.out) (C_one BgI.out) (by decide) (by simp)).mono ?_
 rintro e v4 ⟨hb, ⟨h1, _⟩ | ⟨_, vb, va, rfl, hC, hA⟩⟩
 ·exact absurd HE.out h1
 have HX4 := lH_ (bthen' HX3.out hb)
 rw [HC.out] at hC
 rw [HA.out] at hA
 rw [HXX.out, HYY.out, HVV.out, show exG.hang.a = 0 from rfl]
 obtain ⟨A1, k1, rfl, _, hc⟩ := Kd.R_reads hC
 obtain ⟨A2, k2, rfl, _, ha⟩ := Kd.R_reads hA
 dsimp only [List.length]
 clear hb hC hA
 go_upto_region 3 with fail
 obtain ⟨v5, gD, hw0_, hg0_, XgD_, YgD_, _⟩ := new_box v4 #[.slice A1 1 k1, .slice A2 1 k2, .int .i64 0, .int .i64 0, .int .i64 0, .int .i64 d] 51
 rw [hw0_, hg0_]
 have EgD := lH_ (show gD = v4.heap.size + 0 by omega)
 clear hw0_ hg0_
 have HXv5 := lH_ (YgD_.out)
 have BgD := lH_ (XgD_.out)
 clear XgD_ YgD_
 have HX5 := lH_ (bthen' HX4.out HXv5.out)
 obtain ⟨ad, c0, rfl, hK, p0_⟩ := el1 (d := kCt) rfl (Kd.C_below hc HXv5.out) [] 0 (by simp)
 obtain ⟨Ai, ci, hcs, _, hM⟩ := kSl_open hK
 simp only [List.cons.injEq, and_true] at hcs
 subst hcs
 obtain ⟨bd, b0, b1, b2, rfl, hK2, r0, r1, r2⟩ := el3 (d := kPt) rfl hM zPt 1 (by simp)
 have hk2 := kPt_open hK2
 simp only [List.cons.injEq, and_true] at hk2
 obtain ⟨rfl, rfl, rfl⟩ := hk2
 obtain ⟨ae, a0, a1, a2, rfl, hK3, s0, s1, s2⟩ := el3 (d := kI3) rfl (Kd.C_below ha HXv5.out) zI3 0 (by simp)
 have hk3 := kI3_open hK3
 simp only [List.cons.injEq, and_true] at hk3
 obtain ⟨rfl, rfl, rfl⟩ := hk3
 clear hc ha hK hM hK2 hK3
 simp only [List.getD_cons_zero, List.getD_cons_succ, Nat.zero_mul, Nat.one_mul, List.length_cons, List.length_nil, Addr.add_zero'] at p0_ r0 r1 r2 s0 s1 s2
 have h3 : bd.add 3 = ⟨bd.block, bd.off + 3, none⟩ := by have := add_field bd 0 3 (by omega); rwa [Nat.zero_add, Addr.add_zero'] at this
 rw [h3] at r0 r1 r2
 dsimp only at r0 r1 r2
 have d0 := BgD.out.cell 0
 have d1 := BgD.out.cell 1
 have d2 := BgD.out.cell 2
 have d3 := BgD.out.cell 3
 have d4 := BgD.out.cell 4
 have d5 := BgD.out.cell 5
 simp only [gA_, gZ_, gS_] at d0 d1 d2 d3 d4 d5
 go_wp2_with fail
 go_ret
 exact ⟨rfl, HX5.out⟩
end Go.Proofs.Ythpccdhmppbkfaa
/- the reference's sameContours, sameAnchors, SameDrawn. -/
namespace Go.Proofs.Ythpccdhmppbkfaa
open Go.RowKit Go.Shelf Go.Proofs.YthpccdhmppbkfaaW.PrintWords Go.Proofs.YthpccdhmppbkfaaW.PrintLast Go.Proofs.YthpccdhmppbkfaaW.PrintMore
attribute [local go_sem high] eqAn
theorem rfSameA_any (l m : List I3) (A : Option Addr) (c : Nat) (B : Option Addr) (d : Nat) (w : World) (hC : Kd.C kI3 w A l.length l) (hD : Kd.C kI3 w B m.length m) : Calls Try.prog 35 #[.slice A l.length c, .slice B m.length d] w fun e w' => e = .returned (.bool (decide (l = m))) ∧ Below w.heap.size w w' := by
 have HC := lH_ hC
 have HD := lH_ hD
 have hml : l.length ≤ 9223372036854775807 := hC.2.1
 have hmm : m.length ≤ 9223372036854775807 := hD.2.1
 clear hC hD
 by_cases hlen : l.length = m.length
 case neg =>
  have HE : Hid (decide (l = m) = false) := lH_ (decide_eq_false (fun h => hlen (by rw [h])))
  have d0 : ((l.length : Int) != (m.length : Int)) = true := by simp; omega
  clear hlen
  go_enter Try.func35, Try.ntmps35
  go_wp2_with fail
  go_ret
  exact ⟨ret_bool HE.out.symm, Below.refl _ _⟩
 have HLN := lH_ hlen
 have d0 : ((l.length : Int) != (m.length : Int)) = false := by simp; omega
 clear hlen
 go_enter Try.func35, Try.ntmps35
 go_wp2_with fail
 clear d0
 go_loopw [5] (fun i wr => ∃ k : Nat, i = .int .i64 k ∧ k ≤ l.length ∧ Hid (l.take k = m.take k) ∧ Hid (Below w.heap.size w wr)) (fun i _ => l.length - (intOf i).toNat)
 case atStart => exact ⟨0, rfl, Nat.zero_le _, lH_ rfl, lH_ (Below.refl _ _)⟩
 case round =>
  obtain ⟨k, rfl, hk, HT, HBr⟩ := hrel
  by_cases hlt : k < l.length
  ·have d1 : decide (k < l.length) = true := decide_eq_true hlt
   obtain ⟨ad, c0, c1, c2, rfl, hK, p0, p1, p2⟩ := el3 (d := kI3) rfl (Kd.C_below HC.out HBr.out) zI3 k hlt
   have hk2 := kI3_open hK
   simp only [List.cons.injEq, and_true] at hk2
   obtain ⟨rfl, rfl, rfl⟩ := hk2
   have hlt2 : k < m.length := by rw [← HLN.out]; exact hlt
   obtain ⟨bd, c0, c1, c2, rfl, hK2, q0, q1, q2⟩ := el3 (d := kI3) rfl (Kd.C_below HD.out HBr.out) zI3 k hlt2
   have hk2 := kI3_open hK2
   simp only [List.cons.injEq, and_true] at hk2
   obtain ⟨rfl, rfl, rfl⟩ := hk2
   have HY := lH_ (fun h => eq_take_succ l m zI3 k hlt hlt2 HT.out h)
   have HN := lH_ (fun h => decide_eq_false (@ne_getD _ l m zI3 k h))
   generalize l.getD k zI3 = a at *
   generalize m.getD k zI3 = b at *
   have b0 : (0 : Int) ≤ (k : Int) := by omega
   have b1 : (k : Int) < (l.length : Int) := by omega
   have b2 : (k : Int) < (m.length : Int) := by omega
   clear hK hK2 HT hlt2
   go_upto_region 6 with fail
   rcases Bool.eq_false_or_eq_true (a.a == b.a && (a.b == b.b && (a.c == b.c))) with qh | qh
   ·have HE := lH_ (HY.out (by have h := hangEq a b; rw [qh] at h; exact of_decide_eq_true h))
    go_quiet (fail)
    have HB3 := lH_ (bdrewN HBr.out nq)
    generalize wr.drewN nq = w3 at *
    go_wp2_with fail
    exact ⟨⟨k + 1, by go_num, by omega, HE, HB3⟩, by simp [intOf]; omega⟩
   ·have HE := lH_ (HN.out (fun h => by have h2 := hangEq a b; rw [qh] at h2; exact (of_decide_eq_false h2) h))
    go_quiet (fail)
    have HB3 := lH_ (bdrewN HBr.out nq)
    generalize wr.drewN nq = w3 at *
    go_wp2_with fail
    go_ret
    exact ⟨ret_bool HE.out.symm, HB3.out⟩
  ·have d1 : decide (k < l.length) = false := decide_eq_false hlt
   have HE : Hid (decide (l = m) = true) := lH_ (decide_eq_true (by have h := HT.out; rwa [List.take_of_length_le (by omega), List.take_of_length_le (by have := HLN.out; omega)] at h))
   clear hlt
   go_wp2_with fail
   go_ret
   exact ⟨ret_bool HE.out.symm, HBr.out⟩
theorem eqPn2 (d : Nat) (w : World) (x0 y0 x1 y1 : Int) (x2 y2 : Bool) : (Op.equalIn (d + 2) 73 (.agg #[.int .i64 x0, .int .i64 x1, .bool x2]) (.agg #[.int .i64 y0, .int .i64 y1, .bool y2])).run Try.prog w = .ok (x0 == y0 && (x1 == y1 && (x2 == y2))) w := by
 refine eqA_of Try.underlying73 (by kernel_rfl) ?_
 refine eqf_cons (by rfl) (by go_simp; rfl) (by go_simp; rfl) (by go_simp) ?_
 refine eqf_cons (by rfl) (by go_simp; rfl) (by go_simp; rfl) (by go_simp) ?_
 exact eqf_last (by rfl) (by go_simp; rfl) (by go_simp; rfl) (by go_simp)
attribute [local go_sem high] eqPn2
theorem ptEq (a b : Pt) : decide (a = b) = (a.a == b.a && (a.b == b.b && (a.c == b.c))) := by
 obtain ⟨x, y, z⟩ := a
 obtain ⟨u, v, t⟩ := b
 rw [Bool.eq_iff_iff]; simp
theorem rfSameC_any (l m : List (List Pt)) (A : Option Addr) (c : Nat) (B : Option Addr) (d : Nat) (w : World) (hC : Kd.C kCt w A l.length l) (hD : Kd.C kCt w B m.length m) : Calls Try.prog 34 #[.slice A l.length c, .slice B m.length d] w fun e w' => e = .returned (.bool (decide (l = m))) ∧ Below w.heap.size w w' := by
 have HC := lH_ hC
 have HD := lH_ hD
 have hml : l.length ≤ 9223372036854775807 := hC.2.1
 have hmm : m.length ≤ 9223372036854775807 := hD.2.1
 clear hC hD
 by_cases hlen : l.length = m.length
 case neg =>
  have HE : Hid (decide (l = m) = false) := lH_ (decide_eq_false (fun h => hlen (by rw [h])))
  have d0 : ((l.length : Int) != (m.length : Int)) = true := by simp; omega
  clear hlen
  go_enter Try.func34, Try.ntmps34
  go_wp2_with fail
  go_ret
  exact ⟨ret_bool HE.out.symm, Below.refl _ _⟩
 have HLN := lH_ hlen
 have d0 : ((l.length : Int) != (m.length : Int)) = false := by simp; omega
 clear hlen
 go_enter Try.func34, Try.ntmps34
 go_wp2_with fail
 clear d0
 go_loopw [5] (fun i wr => ∃ k : Nat, i = .int .i64 k ∧ k ≤ l.length ∧ Hid (l.take k = m.take k) ∧ Hid (Below w.heap.size w wr)) (fun i _ => l.length - (intOf i).toNat)
 case atStart => exact ⟨0, rfl, Nat.zero_le _, lH_ rfl, lH_ (Below.refl _ _)⟩
 case round =>
  obtain ⟨k, rfl, hk, HT, HBr⟩ := hrel
  by_cases hlt : k < l.length
  ·have d1 : decide (k < l.length) = true := decide_eq_true hlt
   obtain ⟨ad, c0, rfl, hK, p0⟩ := el1 (d := kCt) rfl (Kd.C_below HC.out HBr.out) [] k hlt
   obtain ⟨Ai, ci, hcs, _, hM⟩ := kSl_open hK
   simp only [List.cons.injEq, and_true] at hcs
   subst hcs
   have hlt2 : k < m.length := by rw [← HLN.out]; exact hlt
   obtain ⟨bd, c0, rfl, hK2, q0⟩ := el1 (d := kCt) rfl (Kd.C_below HD.out HBr.out) [] k hlt2
   obtain ⟨Bi, di, hcs, _, hN⟩ := kSl_open hK2
   simp only [List.cons.injEq, and_true] at hcs
   subst hcs
   have HY := lH_ (fun h => eq_take_succ l m [] k hlt hlt2 HT.out h)
   have HN := lH_ (fun h => decide_eq_false (@ne_getD _ l m [] k h))
   generalize l.getD k [] = a at *
   generalize m.getD k [] = b at *
   have b0 : (0 : Int) ≤ (k : Int) := by omega
   have b1 : (k : Int) < (l.length : Int) := by omega
   have b2 : (k : Int) < (m.length : Int) := by omega
   have HM := lH_ hM
   have HN_ := lH_ hN
   have ham : a.length ≤ 9223372036854775807 := hM.2.1
   have hbm : b.length ≤ 9223372036854775807 := hN.2.1
   clear hK hK2 HT hlt2 hM hN
   go_upto_region 6 with fail
   by_cases hln : a.length = b.length
   case neg =>
    have HE := lH_ (HN.out (fun h => hln (by rw [h])))
    have d0 : ((a.length : Int) != (b.length : Int)) = true := by simp; omega
    clear hln
    go_quiet (fail)
    have HB3 := lH_ (bdrewN HBr.out nq)
    generalize wr.drewN nq = w3 at *
    go_wp2_with fail
    go_ret
    exact ⟨ret_bool HE.out.symm, HB3.out⟩
   have HL2 := lH_ hln
   have d0 : ((a.length : Int) != (b.length : Int)) = false := by simp; omega
   clear hln
   go_quiet (fail)
   have HB3 := lH_ (bdrewN HBr.out nq)
   have HBq := lH_ (lH_ (bdrewN (Below.refl wr.heap.size wr) nq)).out
   have HM3 := lH_ (Kd.C_below HM.out HBq.out)
   have HN3 := lH_ (Kd.C_below HN_.out HBq.out)
   have p3 := lH_ (pw_cell_below HBq.out p0)
   have q3 := lH_ (pw_cell_below HBq.out q0)
   generalize wr.drewN nq = w3 at *
   clear d0 HBq p0 q0 HM HN_
   generalize wr = wo at *
   go_wp2_with fail
   go_loopw [6] (fun i wr => ∃ j : Nat, i = .int .i64 j ∧ j ≤ a.length ∧ Hid (a.take j = b.take j) ∧ Hid (Below w3.heap.size w3 wr)) (fun i _ => a.length - (intOf i).toNat)
   case atStart => exact ⟨0, rfl, Nat.zero_le _, lH_ rfl, lH_ (Below.refl _ _)⟩
   case round =>
    obtain ⟨j, rfl, hj, HTJ, HBj⟩ := hrel
    have p0 := pw_cell_below HBj.out p3.out
    have q0 := pw_cell_below HBj.out q3.out
    by_cases hjl : j < a.length
    ·have d2 : decide (j < a.length) = true := decide_eq_true hjl
     obtain ⟨pd, c0, c1, c2, rfl, hK, r0, r1, r2⟩ := el3 (d := kPt) rfl (Kd.C_below HM3.out HBj.out) zPt j hjl
     have hk2 := kPt_open hK
     simp only [List.cons.injEq, and_true] at hk2
     obtain ⟨rfl, rfl, rfl⟩ := hk2
     have hjl2 : j < b.length := by rw [← HL2.out]; exact hjl
     obtain ⟨qd, c0, c1, c2, rfl, hK2, s0, s1, s2⟩ := el3 (d := kPt) rfl (Kd.C_below HN3.out HBj.out) zPt j hjl2
     have hk2 := kPt_open hK2
     simp only [List.cons.injEq, and_true] at hk2
     obtain ⟨rfl, rfl, rfl⟩ := hk2
     have HYJ := lH_ (fun h => eq_take_succ a b zPt j hjl hjl2 HTJ.out h)
     have HNJ := lH_ (fun h => HN.out (@ne_getD _ a b zPt j h))
     generalize a.getD j zPt = x at *
     generalize b.getD j zPt = y at *
     have e0 : (0 : Int) ≤ (j : Int) := by omega
     have e1 : (j : Int) < (a.length : Int) := by omega
     have e2 : (j : Int) < (b.length : Int) := by omega
     clear hK hK2 HTJ hjl2
     go_upto_region 11 with fail
     rcases Bool.eq_false_or_eq_true (x.a == y.a && (x.b == y.b && (x.c == y.c))) with qh | qh
     ·have HE := lH_ (HYJ.out (by have h := ptEq x y; rw [qh] at h; exact of_decide_eq_true h))
      go_quiet (fail)
      have HB4 := lH_ (bdrewN HBj.out nq)
      generalize wr.drewN nq = w4 at *
      go_wp2_with fail
      exact ⟨⟨j + 1, by go_num, by omega, HE, HB4⟩, by simp [intOf]; omega⟩
     ·have HE := lH_ (HNJ.out (fun h => by have h2 := ptEq x y; rw [qh] at h2; exact (of_decide_eq_false h2) h))
      go_quiet (fail)
      have HB4 := lH_ (bdrewN HBj.out nq)
      generalize wr.drewN nq = w4 at *
      go_wp2_with fail
      go_ret
      exact ⟨ret_bool HE.out.symm, bthen' HB3.out HB4.out⟩
    ·have d2 : decide (j < a.length) = false := decide_eq_false hjl
     have HE := lH_ (HY.out (by have h := HTJ.out; rwa [List.take_of_length_le (by omega), List.take_of_length_le (by have := HL2.out; omega)] at h))
     clear hjl
     go_wp2_with fail
     exact ⟨⟨k + 1, by go_num, by omega, HE, lH_ (bthen' HB3.out HBj.out)⟩, by simp [intOf]; omega⟩
  ·have d1 : decide (k < l.length) = false := decide_eq_false hlt
   have HE : Hid (decide (l = m) = true) := lH_ (decide_eq_true (by have h := HT.out; rwa [List.take_of_length_le (by omega), List.take_of_length_le (by have := HLN.out; omega)] at h))
   clear hlt
   go_wp2_with fail
   go_ret
   exact ⟨ret_bool HE.out.symm, HBr.out⟩
structure Dn where
 ct : List (List Pt)
 an : List I3
 hang : I3
 adv : Int
def sameDnB (g x : Dn) : Bool := ((decide (g.ct = x.ct) && decide (g.an = x.an)) && decide (g.hang = x.hang)) && decide (g.adv = x.adv)
theorem rfSameD_any (g x : Dn) (gA1 gA2 xA1 xA2 : Option Addr) (gk1 gk2 xk1 xk2 : Nat) (w : World) (h1 : Kd.C kCt w gA1 g.ct.length g.ct) (h2 : Kd.C kI3 w gA2 g.an.length g.an) (h3 : Kd.C kCt w xA1 x.ct.length x.ct) (h4 : Kd.C kI3 w xA2 x.an.length x.an) : Calls Try.prog 16 #[.agg #[.slice gA1 g.ct.length gk1, .slice gA2 g.an.length gk2, .int .i64 g.hang.a, .int .i64 g.hang.b, .int .i64 g.hang.c, .int .i64 g.adv], .agg #[.slice xA1 x.ct.length xk1, .slice xA2 x.an.length xk2, .int .i64 x.hang.a, .int .i64 x.hang.b, .int .i64 x.hang.c, .int .i64 x.adv]] w fun e w' => e = .returned (.bool (sameDnB g x)) ∧ Below w.heap.size w w' := by
 have H1 := lH_ h1
 have H2 := lH_ h2
 have H3 := lH_ h3
 have H4 := lH_ h4
 have HE : Hid (sameDnB g x = (((decide (g.ct = x.ct) && decide (g.an = x.an)) && decide (g.hang = x.hang)) && decide (g.adv = x.adv))) := lH_ rfl
 clear h1 h2 h3 h4
 go_enter Try.func16, Try.ntmps16
 go_upto_region 1 with fail
 obtain ⟨w1, gA, hw0_, hg0_, XgA_, YgA_, _⟩ := new_box w #[.slice gA1 g.ct.length gk1, .slice gA2 g.an.length gk2, .int .i64 g.hang.a, .int .i64 g.hang.b, .int .i64 g.hang.c, .int .i64 g.adv] 51
 obtain ⟨w2, gB, hw1_, hg1_, XgB_, YgB_, _⟩ := new_box w1 #[.slice xA1 x.ct.length xk1, .slice xA2 x.an.length xk2, .int .i64 x.hang.a, .int .i64 x.hang.b, .int .i64 x.hang.c, .int .i64 x.adv] 51
 have s1_ : w.heap.size + 1 = gB := by rw [← hg1_, ← hw0_]; simp
 rw [hw0_, hw1_, s1_, hg0_]
 have EgA := lH_ (show gA = w.heap.size + 0 by omega)
 have EgB := lH_ (show gB = w.heap.size + 1 by omega)
 clear hw0_ hg0_ hw1_ hg1_ s1_
 have HXw2 := lH_ (bthen' (YgA_.out) YgB_.out)
 have BgA := lH_ ((XgA_.out).below YgB_.out)
 have BgB := lH_ (XgB_.out)
 clear XgA_ YgA_ XgB_ YgB_
 have HX := HXw2
 clear HXw2
 have c0 := BgA.out.cell 0
 simp only [gA_, gZ_, gS_] at c0
 have d0 := BgB.out.cell 0
 simp only [gA_, gZ_, gS_] at d0
 go_wp2_with fail
 refine (rfSameC_any g.ct x.ct gA1 gk1 xA1 xk1 _ (Kd.C_below H1.out HX.out) (Kd.C_below H3.out HX.out)).mono ?_
 rintro e v3 ⟨rfl, hb⟩
 replace HX := lH_ (bthen' HX.out hb)
 replace BgA := lH_ (BgA.out.below hb)
 replace BgB := lH_ (BgB.out.below hb)
 clear hb
 clear c0 d0
 rcases Bool.eq_false_or_eq_true (decide (g.ct = x.ct)) with q1 | q1
 ·rw [q1]
  have HC := lH_ q1
  clear q1
  have c1 := BgA.out.cell 1
  simp only [gA_, gZ_, gS_] at c1
  have d1 := BgB.out.cell 1
  simp only [gA_, gZ_, gS_] at d1
  go_wp2_with fail
  refine (rfSameA_any g.an x.an gA2 gk2 xA2 xk2 _ (Kd.C_below H2.out HX.out) (Kd.C_below H4.out HX.out)).mono ?_
  rintro e v4 ⟨rfl, hb⟩
  replace HX := lH_ (bthen' HX.out hb)
  replace BgA := lH_ (BgA.out.below hb)
  replace BgB := lH_ (BgB.out.below hb)
  clear hb
  clear c1 d1
  rcases Bool.eq_false_or_eq_true (decide (g.an = x.an)) with q2 | q2
  ·rw [q2]
   have HA := lH_ q2
   clear q2
   have c2 := BgA.out.cell 2
   have c3 := BgA.out.cell 3
   have c4 := BgA.out.cell 4
   have c5 := BgA.out.cell 5
   simp only [gA_, gZ_, gS_] at c2 c3 c4 c5
   have d2 := BgB.out.cell 2
   have d3 := BgB.out.cell 3
   have d4 := BgB.out.cell 4
   have d5 := BgB.out.cell 5
   simp only [gA_, gZ_, gS_] at d2 d3 d4 d5
   rcases Bool.eq_false_or_eq_true (g.hang.a == x.hang.a && (g.hang.b == x.hang.b && (g.hang.c == x.hang.c))) with qh | qh
   ·have HH := lH_ ((hangEq g.hang x.hang).trans qh)
    by_cases hv : g.adv = x.adv
    ·have dv : (g.adv == x.adv) = true := by simpa using hv
     have HV := lH_ (decide_eq_true hv)
     go_wp2_with fail
     go_ret
     exact ⟨ret_bool (by rw [HE.out]; simp only [HC.out, HA.out, HH.out, HV.out]; rfl), HX.out⟩
    ·have dv : (g.adv == x.adv) = false := by simpa using hv
     have HV := lH_ (decide_eq_false hv)
     go_wp2_with fail
     go_ret
     exact ⟨ret_bool (by rw [HE.out]; simp only [HC.out, HA.out, HH.out, HV.out]; rfl), HX.out⟩
   ·have HH := lH_ ((hangEq g.hang x.hang).trans qh)
    go_wp2_with fail
    go_ret
    exact ⟨ret_bool (by rw [HE.out]; simp only [HC.out, HA.out, HH.out]; rfl), HX.out⟩
  ·rw [q2]
   have HA := lH_ q2
   clear q2
   go_wp2_with fail
   go_ret
   exact ⟨ret_bool (by rw [HE.out]; simp only [HC.out, HA.out]; rfl), HX.out⟩
 ·rw [q1]
  have HC := lH_ q1
  clear q1
  go_wp2_with fail
  go_ret
  exact ⟨ret_bool (by rw [HE.out]; simp only [HC.out]; rfl), HX.out⟩
end Go.Proofs.Ythpccdhmppbkfaa
/- the law's sanity. -/
namespace Go.Proofs.Ythpccdhmppbkfaa
open Go.RowKit Go.Shelf Go.Proofs.YthpccdhmppbkfaaW.PrintWords Go.Proofs.YthpccdhmppbkfaaW.PrintLast Go.Proofs.YthpccdhmppbkfaaW.PrintMore
attribute [local go_sem high] eqAn eqPn
theorem ex0 : atE exG exR [0] = 0 ∧ atC exG exR [0] = [[⟨0, 0, true⟩, ⟨640, 0, true⟩, ⟨640, 1280, true⟩]] ∧ atA exG exR [0] = [⟨1, 320, 1280⟩] ∧ atX exG exR [0] = 0 ∧ atY exG exR [0] = 0 ∧ atV exG exR [0] = 768 := by decide +kernel
theorem ex64 : atE exG exR [64] = 0 ∧ atC exG exR [64] = [[⟨0, 0, true⟩, ⟨1152, 0, true⟩, ⟨640, 1280, true⟩]] ∧ atA exG exR [64] = [⟨1, 448, 1280⟩] ∧ atX exG exR [64] = 0 ∧ atY exG exR [64] = 0 ∧ atV exG exR [64] = 1024 := by decide +kernel
theorem ex32 : atE exG exR [32] = 0 ∧ atC exG exR [32] = [[⟨0, 0, true⟩, ⟨896, 0, true⟩, ⟨640, 1280, true⟩]] ∧ atA exG exR [32] = [⟨1, 384, 1280⟩] ∧ atX exG exR [32] = 0 ∧ atY exG exR [32] = 0 ∧ atV exG exR [32] = 896 := by decide +kernel
theorem exN : atE exG exR [] = 11 ∧ atE exG exR [65] = 10 ∧ exG.chk 1 = 0 ∧ exG.chk 0 = 13 ∧ exG.pts = 5 := by decide +kernel
theorem exS : scW 8 [⟨1, 384, 1280⟩] 0 0 896 [[⟨0, 0, true⟩, ⟨896, 0, true⟩, ⟨640, 1280, true⟩]] = false ∧ [[⟨0, 0, true⟩, ⟨896, 0, true⟩, ⟨640, 1280, true⟩]].map (mapCF 8) = [[⟨0, 0, true⟩, ⟨112, 0, true⟩, ⟨80, 160, true⟩]] ∧ [(⟨1, 384, 1280⟩ : I3)].map (mapAF 8) = [⟨1, 48, 160⟩] ∧ mulQ 0 8 = 0 ∧ mulQ 896 8 = 112 := by decide +kernel
theorem exS3 : scW 3 [⟨1, 384, 1280⟩] 0 0 896 [[⟨0, 0, true⟩, ⟨896, 0, true⟩, ⟨640, 1280, true⟩]] = true := by decide +kernel
def zGl : Gl := ⟨[], [], ⟨0, 0, 0⟩, 0, [], []⟩
def zHd : Hd := ⟨none, 0, none, 0, none, 0, none, 0⟩
theorem zGlR (w : World) : GlR w zGl zHd := ⟨⟨rfl, by decide, fun h => absurd h (by decide)⟩, ⟨rfl, by decide, fun h => absurd h (by decide)⟩, ⟨rfl, by decide, fun h => absurd h (by decide)⟩, ⟨rfl, by decide, fun h => absurd h (by decide)⟩, Nat.le_refl 0, Nat.le_refl 0, Nat.le_refl 0, Nat.le_refl 0⟩
theorem sanity_any (w : World) : Calls Try.prog 7 #[] w fun e w' => e = .returned (.bool true) ∧ Below w.heap.size w w' := by
 go_enter Try.func7, Try.ntmps7
 go_wp2_with fail
 refine (example_any w).mono ?_
 rintro e v1 ⟨h, Ar, cr, rfl, hG, hR, hcr, hb⟩
 obtain ⟨q1, m1, q2, m2, q3, m3, q4, m4⟩ := h
 rw [show gv exG ⟨q1, m1, q2, m2, q3, m3, q4, m4⟩ = #[.slice q1 1 m1, .slice q2 1 m2, .int .i64 0, .int .i64 0, .int .i64 0, .int .i64 12, .slice q3 1 m3, .slice q4 0 m4] from rfl, show exR.length = 1 from rfl]
 have HX := lH_ hb
 have HGL := lH_ hG
 have HRR := lH_ hR
 clear hb hG hR hcr
 have HXR := lH_ (Below.refl v1.heap.size v1)
 go_upto_region 2 with fail
 obtain ⟨v2, gG, hw0_, hg0_, XgG_, YgG_, _⟩ := new_box v1 #[.slice q1 1 m1, .slice q2 1 m2, .int .i64 0, .int .i64 0, .int .i64 0, .int .i64 12, .slice q3 1 m3, .slice q4 0 m4] 29
 rw [hw0_, hg0_]
 have EgG := lH_ (show gG = v1.heap.size + 0 by omega)
 clear hw0_ hg0_
 have HXv2 := lH_ (YgG_.out)
 have BgG := lH_ (XgG_.out)
 clear XgG_ YgG_
 have hb := HXv2.out
 replace HX := lH_ (bthen' HX.out hb)
 replace HXR := lH_ (bthen' HXR.out hb)
 clear hb
 have c0 := BgG.out.cell 0
 have c1 := BgG.out.cell 1
 have c2 := BgG.out.cell 2
 have c3 := BgG.out.cell 3
 have c4 := BgG.out.cell 4
 have c5 := BgG.out.cell 5
 have c6 := BgG.out.cell 6
 have c7 := BgG.out.cell 7
 simp only [gA_, gZ_, gS_] at c0 c1 c2 c3 c4 c5 c6 c7
 go_wp2_with fail
 refine (points_any exG ⟨q1, m1, q2, m2, q3, m3, q4, m4⟩ v2 (HGL.out.below HXR.out) exFew).mono ?_
 rintro e u0 ⟨rfl, hb⟩
 rw [exN.2.2.2.2]
 replace HX := lH_ (bthen' HX.out hb)
 replace HXR := lH_ (bthen' HXR.out hb)
 replace BgG := lH_ (BgG.out.below hb)
 clear hb
 clear c0 c1 c2 c3 c4 c5 c6 c7
 have c0 := BgG.out.cell 0
 have c1 := BgG.out.cell 1
 have c2 := BgG.out.cell 2
 have c3 := BgG.out.cell 3
 have c4 := BgG.out.cell 4
 have c5 := BgG.out.cell 5
 have c6 := BgG.out.cell 6
 have c7 := BgG.out.cell 7
 simp only [gA_, gZ_, gS_] at c0 c1 c2 c3 c4 c5 c6 c7
 go_wp2_with fail
 refine (check_any exG ⟨q1, m1, q2, m2, q3, m3, q4, m4⟩ 1 u0 (HGL.out.below HXR.out) exFew).mono ?_
 rintro e u1 ⟨rfl, hb⟩
 rw [exN.2.2.1]
 replace HX := lH_ (bthen' HX.out hb)
 replace HXR := lH_ (bthen' HXR.out hb)
 replace BgG := lH_ (BgG.out.below hb)
 clear hb
 clear c0 c1 c2 c3 c4 c5 c6 c7
 have c0 := BgG.out.cell 0
 have c1 := BgG.out.cell 1
 have c2 := BgG.out.cell 2
 have c3 := BgG.out.cell 3
 have c4 := BgG.out.cell 4
 have c5 := BgG.out.cell 5
 have c6 := BgG.out.cell 6
 have c7 := BgG.out.cell 7
 simp only [gA_, gZ_, gS_] at c0 c1 c2 c3 c4 c5 c6 c7
 go_wp2_with fail
 refine (check_any exG ⟨q1, m1, q2, m2, q3, m3, q4, m4⟩ 0 u1 (HGL.out.below HXR.out) exFew).mono ?_
 rintro e u2 ⟨rfl, hb⟩
 rw [exN.2.2.2.1]
 replace HX := lH_ (bthen' HX.out hb)
 replace HXR := lH_ (bthen' HXR.out hb)
 replace BgG := lH_ (BgG.out.below hb)
 clear hb
 clear c0 c1 c2 c3 c4 c5 c6 c7
 go_wp2_with fail
 refine (has_any 0 640 320 768 ⟨0, 0, true⟩ ⟨640, 1280, true⟩ ex0.1 ex0.2.1 ex0.2.2.1 ex0.2.2.2.1 ex0.2.2.2.2.1 ex0.2.2.2.2.2 _).mono ?_
 rintro e u3 ⟨rfl, hb⟩
 replace HX := lH_ (bthen' HX.out hb)
 replace HXR := lH_ (bthen' HXR.out hb)
 replace BgG := lH_ (BgG.out.below hb)
 clear hb
 go_wp2_with fail
 refine (has_any 64 1152 448 1024 ⟨0, 0, true⟩ ⟨640, 1280, true⟩ ex64.1 ex64.2.1 ex64.2.2.1 ex64.2.2.2.1 ex64.2.2.2.2.1 ex64.2.2.2.2.2 _).mono ?_
 rintro e u4 ⟨rfl, hb⟩
 replace HX := lH_ (bthen' HX.out hb)
 replace HXR := lH_ (bthen' HXR.out hb)
 replace BgG := lH_ (BgG.out.below hb)
 clear hb
 go_wp2_with fail
 refine (has_any 32 896 384 896 ⟨0, 0, true⟩ ⟨640, 1280, true⟩ ex32.1 ex32.2.1 ex32.2.2.1 ex32.2.2.2.1 ex32.2.2.2.2.1 ex32.2.2.2.2.2 _).mono ?_
 rintro e u5 ⟨rfl, hb⟩
 replace HX := lH_ (bthen' HX.out hb)
 replace HXR := lH_ (bthen' HXR.out hb)
 replace BgG := lH_ (BgG.out.below hb)
 clear hb
 have c0 := BgG.out.cell 0
 have c1 := BgG.out.cell 1
 have c2 := BgG.out.cell 2
 have c3 := BgG.out.cell 3
 have c4 := BgG.out.cell 4
 have c5 := BgG.out.cell 5
 have c6 := BgG.out.cell 6
 have c7 := BgG.out.cell 7
 simp only [gA_, gZ_, gS_] at c0 c1 c2 c3 c4 c5 c6 c7
 go_wp2_with fail
 refine (at_any exG ⟨q1, m1, q2, m2, q3, m3, q4, m4⟩ exR Ar cr [] none 0 u5 (HGL.out.below HXR.out) exFew (Kd.C_below HRR.out HXR.out) ⟨rfl, by decide, fun h => absurd h (by decide)⟩ (by decide) (by decide)).mono ?_
 rintro e u6 ⟨hb, ⟨_, rfl⟩ | ⟨h1, _⟩⟩
 rotate_left
 ·rw [exN.1] at h1; exact absurd h1 (by decide)
 rw [exN.1]
 replace HX := lH_ (bthen' HX.out hb)
 replace HXR := lH_ (bthen' HXR.out hb)
 replace BgG := lH_ (BgG.out.below hb)
 clear hb
 clear c0 c1 c2 c3 c4 c5 c6 c7
 go_upto_region 4 with fail
 obtain ⟨u7, g4, hw0_, hg0_, Xg4_, Yg4_, _⟩ := new_box u6 #[.slice none 0 0, .slice none 0 0, .int .i64 0, .int .i64 0, .int .i64 0, .int .i64 0] 51
 rw [hw0_, hg0_]
 have Eg4 := lH_ (show g4 = u6.heap.size + 0 by omega)
 clear hw0_ hg0_
 have HXu7 := lH_ (Yg4_.out)
 have Bg4 := lH_ (Xg4_.out)
 clear Xg4_ Yg4_
 have hb := HXu7.out
 replace HX := lH_ (bthen' HX.out hb)
 replace HXR := lH_ (bthen' HXR.out hb)
 replace BgG := lH_ (BgG.out.below hb)
 clear hb
 have c0 := BgG.out.cell 0
 have c1 := BgG.out.cell 1
 have c2 := BgG.out.cell 2
 have c3 := BgG.out.cell 3
 have c4 := BgG.out.cell 4
 have c5 := BgG.out.cell 5
 have c6 := BgG.out.cell 6
 have c7 := BgG.out.cell 7
 simp only [gA_, gZ_, gS_] at c0 c1 c2 c3 c4 c5 c6 c7
 go_wp2_with fail
 obtain ⟨u8, gI1, hw0_, hg0_, XgI1_, YgI1_, _⟩ := new_box u7 #[.int .i64 65] 3
 rw [hw0_, hg0_]
 have EgI1 := lH_ (show gI1 = u7.heap.size + 0 by omega)
 clear hw0_ hg0_
 have HXu8 := lH_ (YgI1_.out)
 have BgI1 := lH_ (XgI1_.out)
 clear XgI1_ YgI1_
 have hb := HXu8.out
 replace HX := lH_ (bthen' HX.out hb)
 replace HXR := lH_ (bthen' HXR.out hb)
 replace BgG := lH_ (BgG.out.below hb)
 clear hb
 clear c0 c1 c2 c3 c4 c5 c6 c7
 refine (at_any exG ⟨q1, m1, q2, m2, q3, m3, q4, m4⟩ exR Ar cr [65] (some ⟨gI1, 0, none⟩) 1 u8 (HGL.out.below HXR.out) exFew (Kd.C_below HRR.out HXR.out) (C_one BgI1.out) (by decide) (by decide)).mono ?_
 rintro e u9 ⟨hb, ⟨_, rfl⟩ | ⟨h1, _⟩⟩
 rotate_left
 ·rw [exN.2.1] at h1; exact absurd h1 (by decide)
 rw [exN.2.1]
 replace HX := lH_ (bthen' HX.out hb)
 replace HXR := lH_ (bthen' HXR.out hb)
 replace BgG := lH_ (BgG.out.below hb)
 clear hb
 go_upto_region 5 with fail
 obtain ⟨x0, g5, hw0_, hg0_, Xg5_, Yg5_, _⟩ := new_box u9 #[.slice none 0 0, .slice none 0 0, .int .i64 0, .int .i64 0, .int .i64 0, .int .i64 0] 51
 rw [hw0_, hg0_]
 have Eg5 := lH_ (show g5 = u9.heap.size + 0 by omega)
 clear hw0_ hg0_
 have HXx0 := lH_ (Yg5_.out)
 have Bg5 := lH_ (Xg5_.out)
 clear Xg5_ Yg5_
 have hb := HXx0.out
 replace HX := lH_ (bthen' HX.out hb)
 replace HXR := lH_ (bthen' HXR.out hb)
 replace BgG := lH_ (BgG.out.below hb)
 clear hb
 have c0 := BgG.out.cell 0
 have c1 := BgG.out.cell 1
 have c2 := BgG.out.cell 2
 have c3 := BgG.out.cell 3
 have c4 := BgG.out.cell 4
 have c5 := BgG.out.cell 5
 have c6 := BgG.out.cell 6
 have c7 := BgG.out.cell 7
 simp only [gA_, gZ_, gS_] at c0 c1 c2 c3 c4 c5 c6 c7
 go_wp2_with fail
 obtain ⟨x1, gI2, hw0_, hg0_, XgI2_, YgI2_, _⟩ := new_box x0 #[.int .i64 32] 3
 rw [hw0_, hg0_]
 have EgI2 := lH_ (show gI2 = x0.heap.size + 0 by omega)
 clear hw0_ hg0_
 have HXx1 := lH_ (YgI2_.out)
 have BgI2 := lH_ (XgI2_.out)
 clear XgI2_ YgI2_
 have hb := HXx1.out
 replace HX := lH_ (bthen' HX.out hb)
 replace HXR := lH_ (bthen' HXR.out hb)
 replace BgG := lH_ (BgG.out.below hb)
 clear hb
 clear c0 c1 c2 c3 c4 c5 c6 c7
 refine (at_any exG ⟨q1, m1, q2, m2, q3, m3, q4, m4⟩ exR Ar cr [32] (some ⟨gI2, 0, none⟩) 1 x1 (HGL.out.below HXR.out) exFew (Kd.C_below HRR.out HXR.out) (C_one BgI2.out) (by decide) (by decide)).mono ?_
 rintro e x2 ⟨hb, ⟨h1, _⟩ | ⟨_, vb, va, rfl, hC, hA⟩⟩
 ·exact absurd ex32.1 h1
 rw [ex32.2.1] at hC
 rw [ex32.2.2.1] at hA
 rw [ex32.2.2.2.1, ex32.2.2.2.2.1, ex32.2.2.2.2.2, show exG.hang.a = 0 from rfl]
 obtain ⟨A1, k1, rfl, _, hc⟩ := Kd.R_reads hC
 obtain ⟨A2, k2, rfl, _, ha⟩ := Kd.R_reads hA
 dsimp only [List.length]
 have HC := lH_ hc
 have HA := lH_ ha
 clear hC hA hc ha
 replace HX := lH_ (bthen' HX.out hb)
 replace HXR := lH_ (bthen' HXR.out hb)
 replace BgG := lH_ (BgG.out.below hb)
 clear hb
 go_upto_region 6 with fail
 obtain ⟨x3, gD, hw0_, hg0_, XgD_, YgD_, _⟩ := new_box x2 #[.slice A1 1 k1, .slice A2 1 k2, .int .i64 0, .int .i64 0, .int .i64 0, .int .i64 896] 51
 rw [hw0_, hg0_]
 have EgD := lH_ (show gD = x2.heap.size + 0 by omega)
 clear hw0_ hg0_
 have HXx3 := lH_ (YgD_.out)
 have BgD := lH_ (XgD_.out)
 clear XgD_ YgD_
 have hb := HXx3.out
 have HXD := lH_ hb
 replace HX := lH_ (bthen' HX.out hb)
 replace HXR := lH_ (bthen' HXR.out hb)
 replace BgG := lH_ (BgG.out.below hb)
 clear hb
 have d0 := BgD.out.cell 0
 have d1 := BgD.out.cell 1
 have d2 := BgD.out.cell 2
 have d3 := BgD.out.cell 3
 have d4 := BgD.out.cell 4
 have d5 := BgD.out.cell 5
 simp only [gA_, gZ_, gS_] at d0 d1 d2 d3 d4 d5
 go_wp2_with fail
 refine (scale_any [[⟨0, 0, true⟩, ⟨896, 0, true⟩, ⟨640, 1280, true⟩]] [⟨1, 384, 1280⟩] 0 0 0 896 A1 A2 k1 k2 8 x3 (by decide) (by decide) (by decide) (Kd.C_below HC.out HXD.out) (Kd.C_below HA.out HXD.out)).mono ?_
 rintro e x4 ⟨hb, ⟨h1, _⟩ | ⟨_, vb, cb, va, cv, rfl, hC, hA⟩⟩
 ·rw [exS.1] at h1; cases h1
 rw [exS.2.1] at hC
 rw [exS.2.2.1] at hA
 rw [exS.2.2.2.1, exS.2.2.2.2]
 obtain ⟨_, _, hc⟩ := Kd.R_reads' hC
 obtain ⟨_, _, ha⟩ := Kd.R_reads' hA
 dsimp only [List.length]
 replace HXD := lH_ (bthen' HXD.out hb)
 replace HX := lH_ (bthen' HX.out hb)
 replace HXR := lH_ (bthen' HXR.out hb)
 replace BgG := lH_ (BgG.out.below hb)
 replace BgD := lH_ (BgD.out.below hb)
 clear hb
 clear d0 d1 d2 d3 d4 d5
 go_upto_region 7 with fail
 obtain ⟨x5, gS, hw0_, hg0_, XgS_, YgS_, _⟩ := new_box x4 #[.slice vb 1 cb, .slice va 1 cv, .int .i64 0, .int .i64 0, .int .i64 0, .int .i64 112] 51
 rw [hw0_, hg0_]
 have EgS := lH_ (show gS = x4.heap.size + 0 by omega)
 clear hw0_ hg0_
 have HXx5 := lH_ (YgS_.out)
 have BgS := lH_ (XgS_.out)
 clear XgS_ YgS_
 have hb := HXx5.out
 obtain ⟨ad, c0, rfl, hK, p0_⟩ := el1 (d := kCt) rfl (Kd.C_below hc hb) [] 0 (by decide)
 obtain ⟨Ai, ci, hcs, _, hM⟩ := kSl_open hK
 simp only [List.cons.injEq, and_true] at hcs
 subst hcs
 obtain ⟨bd, b0, b1, b2, rfl, hK2, r0, r1, r2⟩ := el3 (d := kPt) rfl hM zPt 1 (by decide)
 have hk2 := kPt_open hK2
 simp only [List.cons.injEq, and_true] at hk2
 obtain ⟨rfl, rfl, rfl⟩ := hk2
 obtain ⟨ae, a0, a1, a2, rfl, hK3, s0, s1, s2⟩ := el3 (d := kI3) rfl (Kd.C_below ha hb) zI3 0 (by decide)
 have hk3 := kI3_open hK3
 simp only [List.cons.injEq, and_true] at hk3
 obtain ⟨rfl, rfl, rfl⟩ := hk3
 clear hC hA hc ha hK hM hK2 hK3
 simp only [List.getD_cons_zero, List.getD_cons_succ, Nat.zero_mul, Nat.one_mul, List.length_cons, List.length_nil, Addr.add_zero'] at p0_ r0 r1 r2 s0 s1 s2
 have h3 : bd.add 3 = ⟨bd.block, bd.off + 3, none⟩ := by have := add_field bd 0 3 (by omega); rwa [Nat.zero_add, Addr.add_zero'] at this
 rw [h3] at r0 r1 r2
 dsimp only at r0 r1 r2
 replace HXD := lH_ (bthen' HXD.out hb)
 replace HX := lH_ (bthen' HX.out hb)
 replace HXR := lH_ (bthen' HXR.out hb)
 replace BgG := lH_ (BgG.out.below hb)
 replace BgD := lH_ (BgD.out.below hb)
 clear hb
 have z0 := BgS.out.cell 0
 have z1 := BgS.out.cell 1
 have z2 := BgS.out.cell 2
 have z3 := BgS.out.cell 3
 have z4 := BgS.out.cell 4
 have z5 := BgS.out.cell 5
 simp only [gA_, gZ_, gS_] at z0 z1 z2 z3 z4 z5
 go_upto_region 10 with fail
 clear z0 z1 z2 z3 z4 z5 p0_ r0 r1 r2 s0 s1 s2
 have d0 := BgD.out.cell 0
 have d1 := BgD.out.cell 1
 have d2 := BgD.out.cell 2
 have d3 := BgD.out.cell 3
 have d4 := BgD.out.cell 4
 have d5 := BgD.out.cell 5
 simp only [gA_, gZ_, gS_] at d0 d1 d2 d3 d4 d5
 go_wp2_with fail
 refine (scale_any [[⟨0, 0, true⟩, ⟨896, 0, true⟩, ⟨640, 1280, true⟩]] [⟨1, 384, 1280⟩] 0 0 0 896 A1 A2 k1 k2 3 x5 (by decide) (by decide) (by decide) (Kd.C_below HC.out HXD.out) (Kd.C_below HA.out HXD.out)).mono ?_
 rintro e x6 ⟨hb, ⟨_, rfl⟩ | ⟨h1, _⟩⟩
 rotate_left
 ·rw [exS3] at h1; cases h1
 replace HXD := lH_ (bthen' HXD.out hb)
 replace HX := lH_ (bthen' HX.out hb)
 replace HXR := lH_ (bthen' HXR.out hb)
 replace BgG := lH_ (BgG.out.below hb)
 replace BgD := lH_ (BgD.out.below hb)
 clear hb
 clear d0 d1 d2 d3 d4 d5
 go_wp2_with fail
 refine (rfSameD_any ⟨[], [], ⟨0, 0, 0⟩, 0⟩ ⟨[], [], ⟨0, 0, 0⟩, 0⟩ none none none none 0 0 0 0 x6 ⟨rfl, by decide, fun h => absurd h (by decide)⟩ ⟨rfl, by decide, fun h => absurd h (by decide)⟩ ⟨rfl, by decide, fun h => absurd h (by decide)⟩ ⟨rfl, by decide, fun h => absurd h (by decide)⟩).mono ?_
 rintro e x7 ⟨rfl, hb⟩
 rw [show sameDnB ⟨[], [], ⟨0, 0, 0⟩, 0⟩ ⟨[], [], ⟨0, 0, 0⟩, 0⟩ = true by decide]
 replace HXD := lH_ (bthen' HXD.out hb)
 replace HX := lH_ (bthen' HX.out hb)
 replace HXR := lH_ (bthen' HXR.out hb)
 replace BgG := lH_ (BgG.out.below hb)
 replace BgD := lH_ (BgD.out.below hb)
 clear hb
 have c0 := BgG.out.cell 0
 have c1 := BgG.out.cell 1
 have c2 := BgG.out.cell 2
 have c3 := BgG.out.cell 3
 have c4 := BgG.out.cell 4
 have c5 := BgG.out.cell 5
 have c6 := BgG.out.cell 6
 have c7 := BgG.out.cell 7
 simp only [gA_, gZ_, gS_] at c0 c1 c2 c3 c4 c5 c6 c7
 go_wp2_with fail
 refine (same_any exG exG ⟨q1, m1, q2, m2, q3, m3, q4, m4⟩ ⟨q1, m1, q2, m2, q3, m3, q4, m4⟩ x7 (HGL.out.below HXR.out) (HGL.out.below HXR.out)).mono ?_
 rintro e x8 ⟨rfl, hb⟩
 rw [show sameB exG exG = true by decide]
 replace HXD := lH_ (bthen' HXD.out hb)
 replace HX := lH_ (bthen' HX.out hb)
 replace HXR := lH_ (bthen' HXR.out hb)
 replace BgG := lH_ (BgG.out.below hb)
 replace BgD := lH_ (BgD.out.below hb)
 clear hb
 clear c0 c1 c2 c3 c4 c5 c6 c7
 have c0 := BgG.out.cell 0
 have c1 := BgG.out.cell 1
 have c2 := BgG.out.cell 2
 have c3 := BgG.out.cell 3
 have c4 := BgG.out.cell 4
 have c5 := BgG.out.cell 5
 have c6 := BgG.out.cell 6
 have c7 := BgG.out.cell 7
 simp only [gA_, gZ_, gS_] at c0 c1 c2 c3 c4 c5 c6 c7
 go_wp2_with fail
 refine (same_any exG zGl ⟨q1, m1, q2, m2, q3, m3, q4, m4⟩ zHd x8 (HGL.out.below HXR.out) (zGlR _)).mono ?_
 rintro e x9 ⟨rfl, hb⟩
 rw [show sameB exG zGl = false by decide]
 replace HXD := lH_ (bthen' HXD.out hb)
 replace HX := lH_ (bthen' HX.out hb)
 replace HXR := lH_ (bthen' HXR.out hb)
 replace BgG := lH_ (BgG.out.below hb)
 replace BgD := lH_ (BgD.out.below hb)
 clear hb
 clear c0 c1 c2 c3 c4 c5 c6 c7
 go_wp2_with fail
 go_ret
 exact ⟨rfl, HX.out⟩
end Go.Proofs.Ythpccdhmppbkfaa
