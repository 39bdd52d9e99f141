/- The law ScanJoins. -/
import Derived.Test.YtleljodcdbhifaaDoorBa4
import Derived.Test.YtleljodcdbhifaaDoorScDrawn
set_option linter.unusedVariables false
set_option linter.unusedSimpArgs false
namespace Go.Proofs.YtleljodcdbhifaaDoor
open Go.RowKit Go.Proofs.YtleljodcdbhifaaDoorW.PrintWords Go.Proofs.YtleljodcdbhifaaDoorW.PrintLast Go.Proofs.YtleljodcdbhifaaDoorW.PrintMore Hy
attribute [local go_sem ↓] Go.wp_at_zero Go.wp_at_succ
def scJoi.T13 : Bool × List (List Nat × List Nat) := (true, [([], []), ([], []), ([], []), ([0, 1, 2], [0, 1, 2]), ([], []), ([], []), ([], []), ([4, 5, 6, 3], [4, 5, 6]), ([7, 7], [7]), ([8], [8]), ([8], [8]), ([8], [8]), ([9, 10, 11, 8, 8], [8, 9, 10, 11]), ([8, 12], [8, 12]), ([3, 13], [3, 13]), ([14, 12], [14]), ([15], [15]), ([16, 15, 15], [15, 16]), ([15], [15]), ([15], [15]), ([17, 18, 19, 17, 15], [15, 17, 18, 19]), ([15], [15]), ([15], [15]), ([15], [15]), ([21, 22, 23, 20, 15], [15, 21, 22, 23]), ([20, 24, 15], [15, 20, 24]), ([15, 25], [15, 25])])
def scJoi.B13 : List Nat := [0, 0, 0, 7, 0, 0, 0, 127, 255, 511, 511, 511, 4095, 8191, 16383, 32767, 65535, 131071, 65535, 65535, 1048575, 65535, 65535, 65535, 16777215, 33554431, 67108863]
theorem scJoi.tab13 : rtab .any (opsOf Tryd.f10 13) = scJoi.T13 := by kernel_rfl
theorem scJoi.bits13 : waitsOk scJoi.T13.2 scJoi.B13 = true := by kernel_rfl
section
open Go.ChangeShapes Go.WideShapes Go.ChangeAt Go.Joins
theorem reads_words {P : Program} {t e : TypeId} (ht : P.underlying t = some (.slice e)) (he : P.underlying e = some (.int .u64)) (hc : P.cellsOf e = 1) {H : Type} {enc : TypeId × Value → H} {w : World} {base : Nat} {spare : Nat → Bool} {held : Bool} {fuel : Nat} {cs : List Value} {x : DataW H × List MemPlace} (hx : DataW.trod enc P w base spare held fuel t cs = some x) :
    ∃ (A : Option Addr) (c : Nat) (xs : List Int), cs = [.slice A xs.length c] ∧ Kd.C (Kd.int .u64) w A xs.length xs ∧ ∀ r ∈ xs, u64 r := by
  rcases Deep.open_slice ht hx with ⟨rfl, _⟩ | ⟨a, len, cap, m, n, D, Pl, rfl, hb, hl, hm, hmm, _, hel⟩
  · exact ⟨none, 0, [], rfl, ⟨rfl, Nat.zero_le _, fun h => absurd h (Nat.lt_irrefl _)⟩, fun r h => by cases h⟩
  · have hlm : len ≤ m := by rw [hmm]; split <;> omega
    obtain ⟨xs, hxl, hxs⟩ := list_choose (n := len) (Q := fun j p => (∃ c, c.length = 1 ∧ (Kd.int .u64).K w p c ∧ ∀ i u, c[i]? = some u → w.cell? (a.add (j * 1 + i)) = some u) ∧ u64 p) (by
      intro i hi
      obtain ⟨cs', h1, h2⟩ := hel i (by omega)
      rw [hc] at h1
      obtain ⟨_, hlen, hcell⟩ := World.cells?_some h1
      obtain ⟨p, hp, _, hw⟩ := DataW.trod_int he h2
      have hw2 : (decide (0 ≤ p) && decide (p ≤ 18446744073709551615)) = true := hw
      have hw3 : 0 ≤ p ∧ p ≤ 18446744073709551615 := by simpa using hw2
      refine ⟨p, ⟨[.int .u64 p], rfl, rfl, fun j u hu => ?_⟩, hw3⟩
      have hj : j = 0 := by
        rcases Nat.eq_zero_or_pos j with h | h
        · exact h
        · rw [List.getElem?_eq_none (by simp; omega)] at hu; cases hu
      subst hj
      have e0 := hcell 0 (by omega)
      rw [Deep.add_add] at e0
      rw [e0, hp]
      simpa using hu)
    refine ⟨some a, cap, xs, by rw [hxl], ⟨rfl, ?_, fun _ => ⟨a, rfl, fun j p hj => (hxs j p hj).1⟩⟩, fun r hr => ?_⟩
    · rw [hxl]
      unfold maxLen at hm
      omega
    · obtain ⟨j, hj, rfl⟩ := List.mem_iff_getElem.1 hr
      exact (hxs j _ (List.getElem?_eq_getElem hj)).2
theorem arg_words2 {H : Type} {enc : TypeId × Value → H} {P : Program} {w : World} {base : Nat} {spare : Nat → Bool} {held : Bool} {t s e : TypeId} {r : Reach} {b0 : Nat} {v : Value} {dd : DataW H} {p : List MemPlace} (ht : P.underlying t = some (.array 2 s)) (hs : P.underlying s = some (.slice e)) (he : P.underlying e = some (.int .u64)) (hc : P.cellsOf e = 1) (hcs : P.cellsOf s = 1) (hct : P.cellsOf t = 2)
    (hv : Value.okWide P w r b0 t v) (h : DataW.Trod enc P w base spare held t v dd p) : ∃ (A A' : Option Addr) (c c' : Nat) (xs ys : List Int), v = .agg #[.slice A xs.length c, .slice A' ys.length c'] ∧ Kd.C (Kd.int .u64) w A xs.length xs ∧ (∀ r ∈ xs, u64 r) ∧ Kd.C (Kd.int .u64) w A' ys.length ys ∧ ∀ r ∈ ys, u64 r := by
  obtain ⟨cs, rfl, hsz⟩ := okWide_array ht hv
  obtain ⟨fuel, hf⟩ := h
  obtain ⟨zs, m, _, _, hl, hn, hel⟩ := DataW.trod_array ht hf
  have h0 := hel 0 (by decide)
  have h1 := hel 1 (by decide)
  rw [hcs] at h0 h1
  rw [List.getElem?_eq_getElem (by omega)] at h0 h1
  obtain ⟨A, c, xs, e0, c0, u0⟩ := reads_words hs he hc h0
  obtain ⟨A', c', ys, e1, c1, u1⟩ := reads_words hs he hc h1
  have hcl : cs.toList.length = 2 := by rw [Array.length_toList, hsz, hct]
  refine ⟨A, A', c, c', xs, ys, ?_, c0, u0, c1, u1⟩
  have hh : ∀ l : List Value, l.length = 2 → (l.drop (0 * 1)).take 1 = [.slice A xs.length c] → (l.drop (1 * 1)).take 1 = [.slice A' ys.length c'] → l = [.slice A xs.length c, .slice A' ys.length c'] := by
    intro l h2 e0 e1
    match l, h2 with
    | [a, b], _ => simp at e0 e1; rw [e0, e1]
  have := hh cs.toList hcl e0 e1
  rw [← Array.toArray_toList (xs := cs), this]
theorem arg_six {H : Type} {enc : TypeId × Value → H} {P : Program} {w : World} {base : Nat} {spare : Nat → Bool} {held : Bool} {t s e : TypeId} {r : Reach} {b0 : Nat} {v : Value} {dd : DataW H} {p : List MemPlace} (ht : P.underlying t = some (.array 2 s)) (hs : P.underlying s = some (.array 3 e)) (he : P.underlying e = some (.int .i64)) (hc : P.cellsOf e = 1) (hcs : P.cellsOf s = 3) (hct : P.cellsOf t = 6)
    (hv : Value.okWide P w r b0 t v) (h : DataW.Trod enc P w base spare held t v dd p) : ∃ m0 m1 m2 n0 n1 n2 : Int, v = .agg #[.int .i64 m0, .int .i64 m1, .int .i64 m2, .int .i64 n0, .int .i64 n1, .int .i64 n2] := by
  obtain ⟨cs, rfl, hsz⟩ := okWide_array ht hv
  obtain ⟨fuel, hf⟩ := h
  obtain ⟨zs, m, _, _, hl, hn, hel⟩ := DataW.trod_array ht hf
  have h0 := hel 0 (by decide)
  have h1 := hel 1 (by decide)
  rw [hcs] at h0 h1
  rw [List.getElem?_eq_getElem (by omega)] at h0 h1
  obtain ⟨xs, x3, e0, _⟩ := rd_ints hs he hc hcs h0
  obtain ⟨ys, y3, e1, _⟩ := rd_ints hs he hc hcs h1
  have hcl : cs.toList.length = 6 := by rw [Array.length_toList, hsz, hct]
  match xs, x3, ys, y3 with
  | [m0, m1, m2], _, [n0, n1, n2], _ =>
    refine ⟨m0, m1, m2, n0, n1, n2, ?_⟩
    have hh : ∀ l : List Value, l.length = 6 → (l.drop (0 * 3)).take 3 = [.int .i64 m0, .int .i64 m1, .int .i64 m2] → (l.drop (1 * 3)).take 3 = [.int .i64 n0, .int .i64 n1, .int .i64 n2] → l = [.int .i64 m0, .int .i64 m1, .int .i64 m2, .int .i64 n0, .int .i64 n1, .int .i64 n2] := by
      intro l h2 e0 e1
      match l, h2 with
      | [a, b, c, d, e, f], _ => simp at e0 e1; obtain ⟨rfl, rfl, rfl⟩ := e0; obtain ⟨rfl, rfl, rfl⟩ := e1; rfl
    have := hh cs.toList hcl e0 e1
    rw [← Array.toArray_toList (xs := cs), this]
end
set_option maxRecDepth 100000 in
set_option maxHeartbeats 40000000 in
theorem scanJoins_walk (m0 m1 m2 n0 n1 n2 : Int) (A1 A2 : Option Addr) (k1 k2 : Nat) (l1 l2 : List Int) (ax ay : Int) (w : World) (hT : Tab w) (hC1 : Kd.C (Kd.int .u64) w A1 l1.length l1) (hu1 : ∀ r ∈ l1, u64 r) (hC2 : Kd.C (Kd.int .u64) w A2 l2.length l2) (hu2 : ∀ r ∈ l2, u64 r) (wa : (Lit.int .i64 ax).wf = true) (wb : (Lit.int .i64 ay).wf = true) :
    Calls Tryd.prog 10 #[.agg #[.int .i64 m0, .int .i64 m1, .int .i64 m2, .int .i64 n0, .int .i64 n1, .int .i64 n2], .agg #[.slice A1 l1.length k1, .slice A2 l2.length k2], .agg #[.int .i64 ax, .int .i64 ay]] w fun e w' => e = .returned (.bool true) ∧ Below w.heap.size w w' := by
  have hu36 := Tryd.underlying36
  have HT := Lib.hid hT
  have K1 := Lib.hid hC1
  have K2 := Lib.hid hC2
  have U1 := Lib.hid hu1
  have U2 := Lib.hid hu2
  clear hT hC1 hC2 hu1 hu2 wa wb
  go_enter Tryd.func10, Tryd.ntmps10
  go_upto_region 1 with fail
  obtain ⟨w0, g3, hw, hg, Q1, HQ1, _⟩ := new_box w #[.int .i64 m0, .int .i64 m1, .int .i64 m2, .int .i64 n0, .int .i64 n1, .int .i64 n2] 53
  obtain ⟨w1, g4, hw', hg', S1, HS1, _⟩ := new_box w0 #[.slice A1 l1.length k1, .slice A2 l2.length k2] 54
  obtain ⟨w2, g5, hw2, hg2, P2, HP2, _⟩ := new_box w1 #[.int .i64 ax, .int .i64 ay] 24
  have eg : g3 + 1 = g4 := by rw [← hg', ← hw, World.size_alloc, hg]
  have eg2 : g4 + 1 = g5 := by rw [← hg2, ← hw', World.size_alloc, hg']
  rw [hg, hw, hw', hw2, eg, eg2]
  have HB2 := Lib.hid (bthen' HQ1.out (bthen' HS1.out HP2.out))
  have Q2 := Lib.hid ((Q1.out.below HS1.out).below HP2.out)
  have S2 := Lib.hid (S1.out.below HP2.out)
  clear hw hg hw' hg' hw2 hg2 eg eg2 Q1 HQ1 HS1 S1 HP2
  go_wp2_with fail
  refine (sanity_any w2 (HT.out.below HB2.out)).mono ?_
  rintro e w3 ⟨rfl, hb⟩
  have HB3 := Lib.hid (bthen' HB2.out hb)
  have Q3 := Lib.hid (Q2.out.below hb)
  have S3 := Lib.hid (S2.out.below hb)
  have P3 := Lib.hid (P2.out.below hb)
  clear hb HB2 Q2 S2 P2
  have a0 : w3.cell? ⟨g3, 0, none⟩ = some (.int .i64 m0) := Q3.out.cell 0
  have a1 : w3.cell? ⟨g3, 1, none⟩ = some (.int .i64 m1) := Q3.out.cell 1
  have a2 : w3.cell? ⟨g3, 2, none⟩ = some (.int .i64 m2) := Q3.out.cell 2
  have b0 : w3.cell? ⟨g4, 0, none⟩ = some (.slice A1 l1.length k1) := S3.out.cell 0
  go_wp2_with fail
  refine (drawn_any m0 m1 m2 A1 k1 l1 w3 (Kd.C_below K1.out HB3.out) U1.out).mono ?_
  rintro e w4 ⟨va, rfl, hR, hb⟩
  have hsa := draw_sm m0 m1 m2 l1 U1.out
  obtain ⟨ab, hab⟩ : ∃ ab, drawB m0 m1 m2 l1 = ab := ⟨_, rfl⟩
  rw [hab] at hR hsa ⊢
  obtain ⟨aL, aT, aW, aH, ar⟩ := ab
  dsimp only at hR ⊢
  obtain ⟨Aa, ca, rfl⟩ := Kd.R_slice hR
  have KA4 := Lib.hid (Kd.R_reads' hR).2.2
  have LA := Lib.hid (Kd.R_reads' hR).2.1
  have SA := Lib.hid hsa
  have HB4 := Lib.hid (bthen' HB3.out hb)
  have Q4 := Lib.hid (Q3.out.below hb)
  have S4 := Lib.hid (S3.out.below hb)
  have P4 := Lib.hid (P3.out.below hb)
  clear hb hR hsa hab HB3 Q3 S3 P3 a0 a1 a2 b0 K1 U1
  go_upto_region 3 with fail
  obtain ⟨w5, g8, hw, hg, XA5, HX5, _⟩ := new_box w4 #[.int .i64 aL, .int .i64 aT, .int .i64 aW, .int .i64 aH, .slice Aa ar.length ca] 36
  rw [hw, hg]
  have HB5 := Lib.hid (bthen' HB4.out HX5.out)
  have Q5 := Lib.hid (Q4.out.below HX5.out)
  have S5 := Lib.hid (S4.out.below HX5.out)
  have P5 := Lib.hid (P4.out.below HX5.out)
  have KA5 := Lib.hid (Kd.C_below KA4.out HX5.out)
  clear hw hg HX5 HB4 Q4 S4 P4 KA4
  have a0 : w5.cell? ⟨g3, 3, none⟩ = some (.int .i64 n0) := Q5.out.cell 3
  have a1 : w5.cell? ⟨g3, 4, none⟩ = some (.int .i64 n1) := Q5.out.cell 4
  have a2 : w5.cell? ⟨g3, 5, none⟩ = some (.int .i64 n2) := Q5.out.cell 5
  have b0 : w5.cell? ⟨g4, 1, none⟩ = some (.slice A2 l2.length k2) := S5.out.cell 1
  go_wp2_with fail
  refine (drawn_any n0 n1 n2 A2 k2 l2 w5 (Kd.C_below K2.out HB5.out) U2.out).mono ?_
  rintro e w6 ⟨vb, rfl, hR, hb⟩
  have hsa := draw_sm n0 n1 n2 l2 U2.out
  obtain ⟨bb, hbb⟩ : ∃ ab, drawB n0 n1 n2 l2 = ab := ⟨_, rfl⟩
  rw [hbb] at hR hsa ⊢
  obtain ⟨bL, bT, bW, bH, br⟩ := bb
  dsimp only at hR ⊢
  obtain ⟨Ab, cb, rfl⟩ := Kd.R_slice hR
  have KB6 := Lib.hid (Kd.R_reads' hR).2.2
  have LB := Lib.hid (Kd.R_reads' hR).2.1
  have SB := Lib.hid hsa
  have HB6 := Lib.hid (bthen' HB5.out hb)
  have P6 := Lib.hid (P5.out.below hb)
  have XA6 := Lib.hid (XA5.out.below hb)
  have KA6 := Lib.hid (Kd.C_below KA5.out hb)
  clear hb hR hsa hbb HB5 Q5 S5 P5 XA5 KA5 a0 a1 a2 b0 K2 U2
  go_upto_region 4 with fail
  obtain ⟨w7, g9, hw, hg, XB7, HX7, _⟩ := new_box w6 #[.int .i64 bL, .int .i64 bT, .int .i64 bW, .int .i64 bH, .slice Ab br.length cb] 36
  rw [hw, hg]
  have HB7 := Lib.hid (bthen' HB6.out HX7.out)
  have P7 := Lib.hid (P6.out.below HX7.out)
  have XA7 := Lib.hid (XA6.out.below HX7.out)
  have KA7 := Lib.hid (Kd.C_below KA6.out HX7.out)
  have KB7 := Lib.hid (Kd.C_below KB6.out HX7.out)
  clear hw hg HX7 HB6 P6 XA6 KA6 KB6
  obtain ⟨⟨cL, cT, cW, cH, cr⟩, o1, o2, o3, rc, uc, lc, gc⟩ := joins SA.out SB.out
  have O1 := Lib.hid o1
  have O2 := Lib.hid o2
  have O3 := Lib.hid o3
  have RC := Lib.hid rc
  have HUc : Hid (∀ r ∈ cr, u64 r) := Lib.hid uc
  have LC' := Lib.hid lc
  have GX := Lib.hid gc
  have HUa : Hid (∀ r ∈ ar, u64 r) := Lib.hid SA.out.right.2
  have HUb : Hid (∀ r ∈ br, u64 r) := Lib.hid SB.out.right.2
  clear o1 o2 o3 rc uc lc gc
  have p0 : w7.cell? ⟨g5, 0, none⟩ = some (.int .i64 ax) := P7.out.cell 0
  have q0 := XA7.out.cell 0
  have q1 := XA7.out.cell 1
  have q2 := XA7.out.cell 2
  have q3 := XA7.out.cell 3
  have q4 := XA7.out.cell 4
  simp only [List.getElem?_toArray, List.getElem?_cons_zero, List.getElem?_cons_succ] at q0 q1 q2 q3 q4
  have r0 := XB7.out.cell 0
  have r1 := XB7.out.cell 1
  have r2 := XB7.out.cell 2
  have r3 := XB7.out.cell 3
  have r4 := XB7.out.cell 4
  simp only [List.getElem?_toArray, List.getElem?_cons_zero, List.getElem?_cons_succ] at r0 r1 r2 r3 r4
  go_wp2_with fail
  generalize Int.tmod ax 50 = X at *
  refine (or_any ⟨aL, aT, aW, aH, ar⟩ ⟨bL, bT, bW, bH, br⟩ Aa Ab ca cb w7 KA7.out LA.out HUa.out KB7.out LB.out HUb.out).mono ?_
  rintro e w8 ⟨vc, rfl, hR, hb⟩
  rw [O1.out] at hR ⊢
  dsimp only at hR ⊢
  obtain ⟨Ac, cc, rfl⟩ := Kd.R_slice hR
  have KC8 := Lib.hid (Kd.R_reads' hR).2.2
  have LC := Lib.hid (Kd.R_reads' hR).2.1
  clear hR p0 P7 q0 q1 q2 q3 q4 r0 r1 r2 r3 r4
  have HB8 := Lib.hid (bthen' HB7.out hb)
  have XA8 := Lib.hid (XA7.out.below hb)
  have XB8 := Lib.hid (XB7.out.below hb)
  have KA8 := Lib.hid (Kd.C_below KA7.out hb)
  have KB8 := Lib.hid (Kd.C_below KB7.out hb)
  clear HB7 XA7 XB7 KA7 KB7
  clear hb
  go_upto_region 6 with fail
  obtain ⟨w9a, g11, hw, hg, XC9a, HX, _⟩ := new_box w8 #[.int .i64 cL, .int .i64 cT, .int .i64 cW, .int .i64 cH, .slice Ac cr.length cc] 36
  rw [hw, hg]
  have HB9a := Lib.hid (bthen' HB8.out HX.out)
  have XA9a := Lib.hid (XA8.out.below HX.out)
  have XB9a := Lib.hid (XB8.out.below HX.out)
  have KA9a := Lib.hid (Kd.C_below KA8.out HX.out)
  have KB9a := Lib.hid (Kd.C_below KB8.out HX.out)
  have KC9a := Lib.hid (Kd.C_below KC8.out HX.out)
  clear HB8 XA8 XB8 KA8 KB8 KC8
  clear hw hg HX
  have q0 := XA9a.out.cell 0
  have q1 := XA9a.out.cell 1
  have q2 := XA9a.out.cell 2
  have q3 := XA9a.out.cell 3
  have q4 := XA9a.out.cell 4
  simp only [List.getElem?_toArray, List.getElem?_cons_zero, List.getElem?_cons_succ] at q0 q1 q2 q3 q4
  have r0 := XB9a.out.cell 0
  have r1 := XB9a.out.cell 1
  have r2 := XB9a.out.cell 2
  have r3 := XB9a.out.cell 3
  have r4 := XB9a.out.cell 4
  simp only [List.getElem?_toArray, List.getElem?_cons_zero, List.getElem?_cons_succ] at r0 r1 r2 r3 r4
  go_wp2_with fail
  refine (or_any ⟨bL, bT, bW, bH, br⟩ ⟨aL, aT, aW, aH, ar⟩ Ab Aa cb ca w9a KB9a.out LB.out HUb.out KA9a.out LA.out HUa.out).mono ?_
  rintro e w9b ⟨vd, rfl, hR, hb⟩
  rw [O2.out] at hR ⊢
  dsimp only at hR ⊢
  obtain ⟨Ad, cd, rfl⟩ := Kd.R_slice hR
  have KD9b := Lib.hid (Kd.R_reads' hR).2.2
  have LD := Lib.hid (Kd.R_reads' hR).2.1
  clear hR q0 q1 q2 q3 q4 r0 r1 r2 r3 r4
  have HB9b := Lib.hid (bthen' HB9a.out hb)
  have XA9b := Lib.hid (XA9a.out.below hb)
  have XB9b := Lib.hid (XB9a.out.below hb)
  have KA9b := Lib.hid (Kd.C_below KA9a.out hb)
  have KB9b := Lib.hid (Kd.C_below KB9a.out hb)
  have KC9b := Lib.hid (Kd.C_below KC9a.out hb)
  have XC9b := Lib.hid (XC9a.out.below hb)
  clear HB9a XA9a XB9a KA9a KB9a KC9a XC9a
  clear hb
  go_upto_region 7 with fail
  obtain ⟨w9c, g13, hw, hg, XD9c, HX, _⟩ := new_box w9b #[.int .i64 cL, .int .i64 cT, .int .i64 cW, .int .i64 cH, .slice Ad cr.length cd] 36
  rw [hw, hg]
  have HB9c := Lib.hid (bthen' HB9b.out HX.out)
  have XA9c := Lib.hid (XA9b.out.below HX.out)
  have XB9c := Lib.hid (XB9b.out.below HX.out)
  have KA9c := Lib.hid (Kd.C_below KA9b.out HX.out)
  have KB9c := Lib.hid (Kd.C_below KB9b.out HX.out)
  have KC9c := Lib.hid (Kd.C_below KC9b.out HX.out)
  have XC9c := Lib.hid (XC9b.out.below HX.out)
  have KD9c := Lib.hid (Kd.C_below KD9b.out HX.out)
  clear HB9b XA9b XB9b KA9b KB9b KC9b XC9b KD9b
  clear hw hg HX
  have q0 := XA9c.out.cell 0
  have q1 := XA9c.out.cell 1
  have q2 := XA9c.out.cell 2
  have q3 := XA9c.out.cell 3
  have q4 := XA9c.out.cell 4
  simp only [List.getElem?_toArray, List.getElem?_cons_zero, List.getElem?_cons_succ] at q0 q1 q2 q3 q4
  go_wp2_with fail
  refine (or_any ⟨aL, aT, aW, aH, ar⟩ ⟨aL, aT, aW, aH, ar⟩ Aa Aa ca ca w9c KA9c.out LA.out HUa.out KA9c.out LA.out HUa.out).mono ?_
  rintro e w9d ⟨vg, rfl, hR, hb⟩
  rw [O3.out] at hR ⊢
  dsimp only at hR ⊢
  obtain ⟨Ag, cg, rfl⟩ := Kd.R_slice hR
  have KG9d := Lib.hid (Kd.R_reads' hR).2.2
  have LG := Lib.hid (Kd.R_reads' hR).2.1
  clear hR q0 q1 q2 q3 q4
  have HB9d := Lib.hid (bthen' HB9c.out hb)
  have XA9d := Lib.hid (XA9c.out.below hb)
  have XB9d := Lib.hid (XB9c.out.below hb)
  have KA9d := Lib.hid (Kd.C_below KA9c.out hb)
  have KB9d := Lib.hid (Kd.C_below KB9c.out hb)
  have KC9d := Lib.hid (Kd.C_below KC9c.out hb)
  have XC9d := Lib.hid (XC9c.out.below hb)
  have KD9d := Lib.hid (Kd.C_below KD9c.out hb)
  have XD9d := Lib.hid (XD9c.out.below hb)
  clear HB9c XA9c XB9c KA9c KB9c KC9c XC9c KD9c XD9c
  clear hb
  go_upto_region 8 with fail
  obtain ⟨w9e, g15, hw, hg, XG9e, HX, _⟩ := new_box w9d #[.int .i64 aL, .int .i64 aT, .int .i64 aW, .int .i64 aH, .slice Ag ar.length cg] 36
  rw [hw, hg]
  have HB9e := Lib.hid (bthen' HB9d.out HX.out)
  have XA9e := Lib.hid (XA9d.out.below HX.out)
  have XB9e := Lib.hid (XB9d.out.below HX.out)
  have KA9e := Lib.hid (Kd.C_below KA9d.out HX.out)
  have KB9e := Lib.hid (Kd.C_below KB9d.out HX.out)
  have KC9e := Lib.hid (Kd.C_below KC9d.out HX.out)
  have XC9e := Lib.hid (XC9d.out.below HX.out)
  have KD9e := Lib.hid (Kd.C_below KD9d.out HX.out)
  have XD9e := Lib.hid (XD9d.out.below HX.out)
  have KG9e := Lib.hid (Kd.C_below KG9d.out HX.out)
  clear HB9d XA9d XB9d KA9d KB9d KC9d XC9d KD9d XD9d KG9d
  clear hw hg HX
  have q0 := XC9e.out.cell 0
  have q1 := XC9e.out.cell 1
  have q2 := XC9e.out.cell 2
  have q3 := XC9e.out.cell 3
  have q4 := XC9e.out.cell 4
  simp only [List.getElem?_toArray, List.getElem?_cons_zero, List.getElem?_cons_succ] at q0 q1 q2 q3 q4
  have r0 := XD9e.out.cell 0
  have r1 := XD9e.out.cell 1
  have r2 := XD9e.out.cell 2
  have r3 := XD9e.out.cell 3
  have r4 := XD9e.out.cell 4
  simp only [List.getElem?_toArray, List.getElem?_cons_zero, List.getElem?_cons_succ] at r0 r1 r2 r3 r4
  go_wp2_with fail
  refine (abugidaref11_Same.calls 0 cL cT cW cH Ac cc cr cL cT cW cH Ad cd cr true w9e KC9e.out LC.out KD9e.out LD.out (show some (sameB ⟨cL, cT, cW, cH, cr⟩ ⟨cL, cT, cW, cH, cr⟩) = some true by rw [sameB_refl])).mono ?_
  rintro e w9f ⟨rfl, hb⟩
  clear q0 q1 q2 q3 q4 r0 r1 r2 r3 r4
  have HB9f := Lib.hid (bthen' HB9e.out hb)
  have XA9f := Lib.hid (XA9e.out.below hb)
  have XB9f := Lib.hid (XB9e.out.below hb)
  have KA9f := Lib.hid (Kd.C_below KA9e.out hb)
  have KB9f := Lib.hid (Kd.C_below KB9e.out hb)
  have KC9f := Lib.hid (Kd.C_below KC9e.out hb)
  have XC9f := Lib.hid (XC9e.out.below hb)
  have KG9f := Lib.hid (Kd.C_below KG9e.out hb)
  have XG9f := Lib.hid (XG9e.out.below hb)
  clear HB9e XA9e XB9e KA9e KB9e KC9e XC9e KG9e XG9e
  clear hb
  have q0 := XG9f.out.cell 0
  have q1 := XG9f.out.cell 1
  have q2 := XG9f.out.cell 2
  have q3 := XG9f.out.cell 3
  have q4 := XG9f.out.cell 4
  simp only [List.getElem?_toArray, List.getElem?_cons_zero, List.getElem?_cons_succ] at q0 q1 q2 q3 q4
  have r0 := XA9f.out.cell 0
  have r1 := XA9f.out.cell 1
  have r2 := XA9f.out.cell 2
  have r3 := XA9f.out.cell 3
  have r4 := XA9f.out.cell 4
  simp only [List.getElem?_toArray, List.getElem?_cons_zero, List.getElem?_cons_succ] at r0 r1 r2 r3 r4
  go_wp2_with fail
  refine (abugidaref11_Same.calls 0 aL aT aW aH Ag cg ar aL aT aW aH Aa ca ar true w9f KG9f.out LG.out KA9f.out LA.out (show some (sameB ⟨aL, aT, aW, aH, ar⟩ ⟨aL, aT, aW, aH, ar⟩) = some true by rw [sameB_refl])).mono ?_
  rintro e w9 ⟨rfl, hb⟩
  clear q0 q1 q2 q3 q4 r0 r1 r2 r3 r4
  have HB := Lib.hid (bthen' HB9f.out hb)
  have XA := Lib.hid (XA9f.out.below hb)
  have XB := Lib.hid (XB9f.out.below hb)
  have KA := Lib.hid (Kd.C_below KA9f.out hb)
  have KB := Lib.hid (Kd.C_below KB9f.out hb)
  have KC := Lib.hid (Kd.C_below KC9f.out hb)
  have XC := Lib.hid (XC9f.out.below hb)
  clear HB9f XA9f XB9f KA9f KB9f KC9f XC9f
  clear hb KD9e XD9e XG9f KG9f
  have HT9 := Lib.hid (HT.out.below HB.out)
  clear HT
  obtain ⟨⟨tL, tT, tW, tH, tr⟩, htr⟩ : ∃ t, trimB ⟨cL, cT, cW, cH, cr⟩ = t := ⟨_, rfl⟩
  have HTR := Lib.hid htr
  have HUt : Hid (∀ r ∈ tr, u64 r) := Lib.hid (by have h := (trim_right (b := ⟨cL, cT, cW, cH, cr⟩) HUc.out).2; rw [htr] at h; exact h)
  clear htr
  have HBW := Lib.hid HB.out
  clear HB
  go_wp2_with fail
  go_loopw [17] (fun i wr => ∃ y : Int, -25 ≤ y ∧ y ≤ 50 ∧ i = .int .i64 y ∧ Hid (Below w9.heap.size w9 wr)) (fun i _ => (50 - intOf i).toNat)
  case atStart => exact ⟨-25, by decide, by decide, rfl, Lib.hid (Below.refl _ _)⟩
  case round =>
  obtain ⟨y, hy0, hy1, rfl, HBr⟩ := hrel
  by_cases hy : y < 50
  · have dy : decide (y < 50) = true := decide_eq_true hy
    have e5 : IntKind.i64.wrap (y + 1) = y + 1 := IntWalk.i64_in _ (by omega)
    have HY := Lib.hid (show -25 ≤ y ∧ y < 50 from ⟨hy0, hy⟩)
    have hgx := GX.out X y
    obtain ⟨pa, hpa⟩ : ∃ pa, getB ⟨aL, aT, aW, aH, ar⟩ X y = pa := ⟨_, rfl⟩
    obtain ⟨pb, hpb⟩ : ∃ pb, getB ⟨bL, bT, bW, bH, br⟩ X y = pb := ⟨_, rfl⟩
    rw [hpa, hpb] at hgx
    have GB := Lib.hid hpb
    have E5 := Lib.hid e5
    clear hy hy0 hy1 e5 hpb
    go_upto_region 13 with fail
    clear dy
    cases pa
    · have GA := Lib.hid hpa
      have GC : Hid (getB ⟨cL, cT, cW, cH, cr⟩ X y = pb) := Lib.hid (by rw [hgx.1]; rfl)
      have GT : Hid (getB ⟨tL, tT, tW, tH, tr⟩ X y = pb) := Lib.hid (by rw [← HTR.out, hgx.2, GC.out])
      clear hpa hgx
      refine start_ (n := 27) (S := fun w' => True) (ds := []) #[false, false, false, false, false, false, false, false, false, false, false, false, false, false, false, false, false, false, false, false, false, false, false, false, false, false, false] (by kernel_rfl) rfl rfl trivial (fun hHeld => ?_)
      refine with_tabW scJoi.tab13 scJoi.bits13 (fun HT_ HW_ => ?_)
      have HB : Aside0 (Below w9.heap.size w9 wr.drew) := ⟨bdrew HBr.out⟩
      generalize hwd : wr.drew = w1' at *
      clear hwd
      refine inv_at [0, 1, 2, 3, 4, 5, 6, 7, 8, 9, 10, 11, 12, 13, 14, 15, 16, 17, 18, 19, 20, 21, 22, 23, 24, 25, 26] (fun a0_ b a w' => ∃ (vt : Value) (m17_ : Value), a = putSel a0_ b [(0, 76, .agg #[.int .i64 cL, .int .i64 cT, .int .i64 cW, .int .i64 cH, .slice Ac cr.length cc]), (1, 77, .int .i64 X), (2, 78, .int .i64 y), (3, 79, .bool pb), (4, 80, .agg #[.int .i64 aL, .int .i64 aT, .int .i64 aW, .int .i64 aH, .slice Aa ar.length ca]), (5, 81, .int .i64 X), (6, 82, .int .i64 y), (7, 83, .bool false), (8, 84, .bool false), (9, 85, .agg #[.int .i64 bL, .int .i64 bT, .int .i64 bW, .int .i64 bH, .slice Ab br.length cb]), (10, 86, .int .i64 X), (11, 87, .int .i64 y), (12, 88, .bool pb), (13, 89, .bool pb), (14, 90, .bool false), (15, 91, .bool false), (16, 92, .agg #[.int .i64 cL, .int .i64 cT, .int .i64 cW, .int .i64 cH, .slice Ac cr.length cc]), (17, 93, m17_), (18, 94, .int .i64 X), (19, 95, .int .i64 y), (20, 96, .bool pb), (21, 97, .agg #[.int .i64 cL, .int .i64 cT, .int .i64 cW, .int .i64 cH, .slice Ac cr.length cc]), (22, 98, .int .i64 X), (23, 99, .int .i64 y), (24, 100, .bool pb), (25, 101, .bool false), (26, 102, .bool false)] ∧ (Below w9.heap.size w9 w') ∧ (b 17 = true → b 20 = false → Kd.R (Kd.int .u64) 59 w' w9.heap.size (fun _ => True) vt tr) ∧ (b 17 = true → (m17_ : Value) = .agg #[.int .i64 tL, .int .i64 tT, .int .i64 tW, .int .i64 tH, vt])) HT_.out HW_.out (by kernel_rfl) (by kernel_rfl) ?_ ?_ ?_
      · exact ⟨undef, .bool false, by simp only [putSel, Bool.false_eq_true, if_false], HB.out, fun h_ => absurd h_ (by decide), fun h_ => absurd h_ (by decide)⟩
      · skip
        clear HB
        refine steps_cons ?_ ?_
        · rintro b a w' ⟨vt, m17_, ha, Q_HB, Q_RT, Q_X17_⟩ hb_ hon hoff
          refine ⟨_, rfl, fun K hK => ?_⟩
          have e11 : a.tmps[11]? = some (.pointer (some ⟨g11, 0, none⟩)) := by rw [ha]; exact (putSel_off rfl).trans rfl
          replace ha := Aside0.mk ha
          have HB := Aside0.mk Q_HB
          have q0 : w'.cell? ⟨g11, 0, none⟩ = some (.int .i64 cL) := pw_cell_below HB.out (XC.out.cell 0)
          have q1 : w'.cell? ⟨g11, 1, none⟩ = some (.int .i64 cT) := pw_cell_below HB.out (XC.out.cell 1)
          have q2 : w'.cell? ⟨g11, 2, none⟩ = some (.int .i64 cW) := pw_cell_below HB.out (XC.out.cell 2)
          have q3 : w'.cell? ⟨g11, 3, none⟩ = some (.int .i64 cH) := pw_cell_below HB.out (XC.out.cell 3)
          have q4 : w'.cell? ⟨g11, 4, none⟩ = some (.slice Ac cr.length cc) := pw_cell_below HB.out (XC.out.cell 4)
          refine value_ (w1 := w') (v := .agg #[.int .i64 cL, .int .i64 cT, .int .i64 cW, .int .i64 cH, .slice Ac cr.length cc]) (by rfl) rfl ?_ ?_
          · go_simp
            (try simp only [i64_w])
            try rfl
          refine hK.out _ _ ⟨vt, m17_, (by rw [ha.out]; exact putSel_upk 0 hb_ rfl rfl rfl), Q_HB, fun h0_ _ => absurd ((hoff 17 (by kernel_rfl)).symm.trans h0_) (by decide), fun h0_ => absurd ((hoff 17 (by kernel_rfl)).symm.trans h0_) (by decide)⟩
        refine steps_cons ?_ ?_
        · rintro b a w' ⟨vt, m17_, ha, Q_HB, Q_RT, Q_X17_⟩ hb_ hon hoff
          refine ⟨_, rfl, fun K hK => ?_⟩
          have e10 : a.tmps[10]? = some (.int .i64 X) := by rw [ha]; exact (putSel_off rfl).trans rfl
          replace ha := Aside0.mk ha
          have HB := Aside0.mk Q_HB
          refine value_ (w1 := w') (v := .int .i64 X) (by rfl) rfl ?_ ?_
          · go_simp
            (try simp only [i64_w])
            try rfl
          refine hK.out _ _ ⟨vt, m17_, (by rw [ha.out]; exact putSel_upk 1 hb_ rfl rfl rfl), Q_HB, fun h0_ _ => absurd ((hoff 17 (by kernel_rfl)).symm.trans h0_) (by decide), fun h0_ => absurd ((hoff 17 (by kernel_rfl)).symm.trans h0_) (by decide)⟩
        refine steps_cons ?_ ?_
        · rintro b a w' ⟨vt, m17_, ha, Q_HB, Q_RT, Q_X17_⟩ hb_ hon hoff
          refine ⟨_, rfl, fun K hK => ?_⟩
          have e17 : a.tmps[17]? = some (.int .i64 y) := by rw [ha]; exact (putSel_off rfl).trans rfl
          replace ha := Aside0.mk ha
          have HB := Aside0.mk Q_HB
          refine value_ (w1 := w') (v := .int .i64 y) (by rfl) rfl ?_ ?_
          · go_simp
            (try simp only [i64_w])
            try rfl
          refine hK.out _ _ ⟨vt, m17_, (by rw [ha.out]; exact putSel_upk 2 hb_ rfl rfl rfl), Q_HB, fun h0_ _ => absurd ((hoff 17 (by kernel_rfl)).symm.trans h0_) (by decide), fun h0_ => absurd ((hoff 17 (by kernel_rfl)).symm.trans h0_) (by decide)⟩
        refine steps_cons ?_ ?_
        · rintro b a w' ⟨vt, m17_, ha, Q_HB, Q_RT, Q_X17_⟩ hb_ hon hoff
          refine ⟨_, rfl, fun K hK => ?_⟩
          have e76 : a.tmps[76]? = some (.agg #[.int .i64 cL, .int .i64 cT, .int .i64 cW, .int .i64 cH, .slice Ac cr.length cc]) := by rw [ha]; exact putSel_on (e := (0, 76, .agg #[.int .i64 cL, .int .i64 cT, .int .i64 cW, .int .i64 cH, .slice Ac cr.length cc])) 0 rfl rfl (hon 0 (by kernel_rfl)) rfl
          have e77 : a.tmps[77]? = some (.int .i64 X) := by rw [ha]; exact putSel_on (e := (1, 77, .int .i64 X)) 1 rfl rfl (hon 1 (by kernel_rfl)) rfl
          have e78 : a.tmps[78]? = some (.int .i64 y) := by rw [ha]; exact putSel_on (e := (2, 78, .int .i64 y)) 2 rfl rfl (hon 2 (by kernel_rfl)) rfl
          replace ha := Aside0.mk ha
          have HB := Aside0.mk Q_HB
          refine call_ 22 #[.agg #[.int .i64 cL, .int .i64 cT, .int .i64 cW, .int .i64 cH, .slice Ac cr.length cc], .int .i64 X, .int .i64 y] (by rfl) rfl ?_ ?_
          · go_simp
          refine (get_any cL cT cW cH X y Ac cc cr w' (Kd.C_below KC.out HB.out) LC.out HUc.out).mono ?_
          rintro e w2' ⟨rfl, hb⟩
          rw [GC.out]
          refine ⟨_, rfl, ?_⟩
          refine hK.out _ _ ⟨vt, m17_, (by rw [ha.out]; exact putSel_upk 3 hb_ rfl rfl rfl), bthen' HB.out hb, fun h0_ _ => absurd ((hoff 17 (by kernel_rfl)).symm.trans h0_) (by decide), fun h0_ => absurd ((hoff 17 (by kernel_rfl)).symm.trans h0_) (by decide)⟩
        refine steps_cons ?_ ?_
        · rintro b a w' ⟨vt, m17_, ha, Q_HB, Q_RT, Q_X17_⟩ hb_ hon hoff
          refine ⟨_, rfl, fun K hK => ?_⟩
          have e8 : a.tmps[8]? = some (.pointer (some ⟨g8, 0, none⟩)) := by rw [ha]; exact (putSel_off rfl).trans rfl
          replace ha := Aside0.mk ha
          have HB := Aside0.mk Q_HB
          have q0 : w'.cell? ⟨g8, 0, none⟩ = some (.int .i64 aL) := pw_cell_below HB.out (XA.out.cell 0)
          have q1 : w'.cell? ⟨g8, 1, none⟩ = some (.int .i64 aT) := pw_cell_below HB.out (XA.out.cell 1)
          have q2 : w'.cell? ⟨g8, 2, none⟩ = some (.int .i64 aW) := pw_cell_below HB.out (XA.out.cell 2)
          have q3 : w'.cell? ⟨g8, 3, none⟩ = some (.int .i64 aH) := pw_cell_below HB.out (XA.out.cell 3)
          have q4 : w'.cell? ⟨g8, 4, none⟩ = some (.slice Aa ar.length ca) := pw_cell_below HB.out (XA.out.cell 4)
          refine value_ (w1 := w') (v := .agg #[.int .i64 aL, .int .i64 aT, .int .i64 aW, .int .i64 aH, .slice Aa ar.length ca]) (by rfl) rfl ?_ ?_
          · go_simp
            (try simp only [i64_w])
            try rfl
          refine hK.out _ _ ⟨vt, m17_, (by rw [ha.out]; exact putSel_upk 4 hb_ rfl rfl rfl), Q_HB, fun h0_ _ => absurd ((hoff 17 (by kernel_rfl)).symm.trans h0_) (by decide), fun h0_ => absurd ((hoff 17 (by kernel_rfl)).symm.trans h0_) (by decide)⟩
        refine steps_cons ?_ ?_
        · rintro b a w' ⟨vt, m17_, ha, Q_HB, Q_RT, Q_X17_⟩ hb_ hon hoff
          refine ⟨_, rfl, fun K hK => ?_⟩
          have e10 : a.tmps[10]? = some (.int .i64 X) := by rw [ha]; exact (putSel_off rfl).trans rfl
          replace ha := Aside0.mk ha
          have HB := Aside0.mk Q_HB
          refine value_ (w1 := w') (v := .int .i64 X) (by rfl) rfl ?_ ?_
          · go_simp
            (try simp only [i64_w])
            try rfl
          refine hK.out _ _ ⟨vt, m17_, (by rw [ha.out]; exact putSel_upk 5 hb_ rfl rfl rfl), Q_HB, fun h0_ _ => absurd ((hoff 17 (by kernel_rfl)).symm.trans h0_) (by decide), fun h0_ => absurd ((hoff 17 (by kernel_rfl)).symm.trans h0_) (by decide)⟩
        refine steps_cons ?_ ?_
        · rintro b a w' ⟨vt, m17_, ha, Q_HB, Q_RT, Q_X17_⟩ hb_ hon hoff
          refine ⟨_, rfl, fun K hK => ?_⟩
          have e17 : a.tmps[17]? = some (.int .i64 y) := by rw [ha]; exact (putSel_off rfl).trans rfl
          replace ha := Aside0.mk ha
          have HB := Aside0.mk Q_HB
          refine value_ (w1 := w') (v := .int .i64 y) (by rfl) rfl ?_ ?_
          · go_simp
            (try simp only [i64_w])
            try rfl
          refine hK.out _ _ ⟨vt, m17_, (by rw [ha.out]; exact putSel_upk 6 hb_ rfl rfl rfl), Q_HB, fun h0_ _ => absurd ((hoff 17 (by kernel_rfl)).symm.trans h0_) (by decide), fun h0_ => absurd ((hoff 17 (by kernel_rfl)).symm.trans h0_) (by decide)⟩
        refine steps_cons ?_ ?_
        · rintro b a w' ⟨vt, m17_, ha, Q_HB, Q_RT, Q_X17_⟩ hb_ hon hoff
          refine ⟨_, rfl, fun K hK => ?_⟩
          have e80 : a.tmps[80]? = some (.agg #[.int .i64 aL, .int .i64 aT, .int .i64 aW, .int .i64 aH, .slice Aa ar.length ca]) := by rw [ha]; exact putSel_on (e := (4, 80, .agg #[.int .i64 aL, .int .i64 aT, .int .i64 aW, .int .i64 aH, .slice Aa ar.length ca])) 4 rfl rfl (hon 4 (by kernel_rfl)) rfl
          have e81 : a.tmps[81]? = some (.int .i64 X) := by rw [ha]; exact putSel_on (e := (5, 81, .int .i64 X)) 5 rfl rfl (hon 5 (by kernel_rfl)) rfl
          have e82 : a.tmps[82]? = some (.int .i64 y) := by rw [ha]; exact putSel_on (e := (6, 82, .int .i64 y)) 6 rfl rfl (hon 6 (by kernel_rfl)) rfl
          replace ha := Aside0.mk ha
          have HB := Aside0.mk Q_HB
          refine call_ 22 #[.agg #[.int .i64 aL, .int .i64 aT, .int .i64 aW, .int .i64 aH, .slice Aa ar.length ca], .int .i64 X, .int .i64 y] (by rfl) rfl ?_ ?_
          · go_simp
          refine (get_any aL aT aW aH X y Aa ca ar w' (Kd.C_below KA.out HB.out) LA.out HUa.out).mono ?_
          rintro e w2' ⟨rfl, hb⟩
          rw [GA.out]
          refine ⟨_, rfl, ?_⟩
          refine hK.out _ _ ⟨vt, m17_, (by rw [ha.out]; exact putSel_upk 7 hb_ rfl rfl rfl), bthen' HB.out hb, fun h0_ _ => absurd ((hoff 17 (by kernel_rfl)).symm.trans h0_) (by decide), fun h0_ => absurd ((hoff 17 (by kernel_rfl)).symm.trans h0_) (by decide)⟩
        refine steps_cons ?_ ?_
        · rintro b a w' ⟨vt, m17_, ha, Q_HB, Q_RT, Q_X17_⟩ hb_ hon hoff
          refine ⟨_, rfl, fun K hK => ?_⟩
          have e83 : a.tmps[83]? = some (.bool false) := by rw [ha]; exact putSel_on (e := (7, 83, .bool false)) 7 rfl rfl (hon 7 (by kernel_rfl)) rfl
          replace ha := Aside0.mk ha
          have HB := Aside0.mk Q_HB
          refine value_ (w1 := w') (v := .bool false) (by rfl) rfl ?_ ?_
          · go_simp
            (try simp only [i64_w])
            try rfl
          refine hK.out _ _ ⟨vt, m17_, (by rw [ha.out]; exact putSel_upk 8 hb_ rfl rfl rfl), Q_HB, fun h0_ _ => absurd ((hoff 17 (by kernel_rfl)).symm.trans h0_) (by decide), fun h0_ => absurd ((hoff 17 (by kernel_rfl)).symm.trans h0_) (by decide)⟩
        refine steps_cons ?_ ?_
        · rintro b a w' ⟨vt, m17_, ha, Q_HB, Q_RT, Q_X17_⟩ hb_ hon hoff
          refine ⟨_, rfl, fun K hK => ?_⟩
          have e9 : a.tmps[9]? = some (.pointer (some ⟨g9, 0, none⟩)) := by rw [ha]; exact (putSel_off rfl).trans rfl
          have e84 : a.tmps[84]? = some (.bool false) := by rw [ha]; exact putSel_on (e := (8, 84, .bool false)) 8 rfl rfl (hon 8 (by kernel_rfl)) rfl
          replace ha := Aside0.mk ha
          have HB := Aside0.mk Q_HB
          have q0 : w'.cell? ⟨g9, 0, none⟩ = some (.int .i64 bL) := pw_cell_below HB.out (XB.out.cell 0)
          have q1 : w'.cell? ⟨g9, 1, none⟩ = some (.int .i64 bT) := pw_cell_below HB.out (XB.out.cell 1)
          have q2 : w'.cell? ⟨g9, 2, none⟩ = some (.int .i64 bW) := pw_cell_below HB.out (XB.out.cell 2)
          have q3 : w'.cell? ⟨g9, 3, none⟩ = some (.int .i64 bH) := pw_cell_below HB.out (XB.out.cell 3)
          have q4 : w'.cell? ⟨g9, 4, none⟩ = some (.slice Ab br.length cb) := pw_cell_below HB.out (XB.out.cell 4)
          refine value_ (w1 := w') (v := .agg #[.int .i64 bL, .int .i64 bT, .int .i64 bW, .int .i64 bH, .slice Ab br.length cb]) (wanted_on rfl rfl rfl (e84.trans (by first | rfl | (simp [*]; done)))) rfl ?_ ?_
          · go_simp
            (try simp only [i64_w])
            try rfl
          refine hK.out _ _ ⟨vt, m17_, (by rw [ha.out]; exact putSel_upk 9 hb_ rfl rfl rfl), Q_HB, fun h0_ _ => absurd ((hoff 17 (by kernel_rfl)).symm.trans h0_) (by decide), fun h0_ => absurd ((hoff 17 (by kernel_rfl)).symm.trans h0_) (by decide)⟩
        refine steps_cons ?_ ?_
        · rintro b a w' ⟨vt, m17_, ha, Q_HB, Q_RT, Q_X17_⟩ hb_ hon hoff
          refine ⟨_, rfl, fun K hK => ?_⟩
          have e10 : a.tmps[10]? = some (.int .i64 X) := by rw [ha]; exact (putSel_off rfl).trans rfl
          have e84 : a.tmps[84]? = some (.bool false) := by rw [ha]; exact putSel_on (e := (8, 84, .bool false)) 8 rfl rfl (hon 8 (by kernel_rfl)) rfl
          replace ha := Aside0.mk ha
          have HB := Aside0.mk Q_HB
          refine value_ (w1 := w') (v := .int .i64 X) (wanted_on rfl rfl rfl (e84.trans (by first | rfl | (simp [*]; done)))) rfl ?_ ?_
          · go_simp
            (try simp only [i64_w])
            try rfl
          refine hK.out _ _ ⟨vt, m17_, (by rw [ha.out]; exact putSel_upk 10 hb_ rfl rfl rfl), Q_HB, fun h0_ _ => absurd ((hoff 17 (by kernel_rfl)).symm.trans h0_) (by decide), fun h0_ => absurd ((hoff 17 (by kernel_rfl)).symm.trans h0_) (by decide)⟩
        refine steps_cons ?_ ?_
        · rintro b a w' ⟨vt, m17_, ha, Q_HB, Q_RT, Q_X17_⟩ hb_ hon hoff
          refine ⟨_, rfl, fun K hK => ?_⟩
          have e17 : a.tmps[17]? = some (.int .i64 y) := by rw [ha]; exact (putSel_off rfl).trans rfl
          have e84 : a.tmps[84]? = some (.bool false) := by rw [ha]; exact putSel_on (e := (8, 84, .bool false)) 8 rfl rfl (hon 8 (by kernel_rfl)) rfl
          replace ha := Aside0.mk ha
          have HB := Aside0.mk Q_HB
          refine value_ (w1 := w') (v := .int .i64 y) (wanted_on rfl rfl rfl (e84.trans (by first | rfl | (simp [*]; done)))) rfl ?_ ?_
          · go_simp
            (try simp only [i64_w])
            try rfl
          refine hK.out _ _ ⟨vt, m17_, (by rw [ha.out]; exact putSel_upk 11 hb_ rfl rfl rfl), Q_HB, fun h0_ _ => absurd ((hoff 17 (by kernel_rfl)).symm.trans h0_) (by decide), fun h0_ => absurd ((hoff 17 (by kernel_rfl)).symm.trans h0_) (by decide)⟩
        refine steps_cons ?_ ?_
        · rintro b a w' ⟨vt, m17_, ha, Q_HB, Q_RT, Q_X17_⟩ hb_ hon hoff
          refine ⟨_, rfl, fun K hK => ?_⟩
          have e85 : a.tmps[85]? = some (.agg #[.int .i64 bL, .int .i64 bT, .int .i64 bW, .int .i64 bH, .slice Ab br.length cb]) := by rw [ha]; exact putSel_on (e := (9, 85, .agg #[.int .i64 bL, .int .i64 bT, .int .i64 bW, .int .i64 bH, .slice Ab br.length cb])) 9 rfl rfl (hon 9 (by kernel_rfl)) rfl
          have e86 : a.tmps[86]? = some (.int .i64 X) := by rw [ha]; exact putSel_on (e := (10, 86, .int .i64 X)) 10 rfl rfl (hon 10 (by kernel_rfl)) rfl
          have e87 : a.tmps[87]? = some (.int .i64 y) := by rw [ha]; exact putSel_on (e := (11, 87, .int .i64 y)) 11 rfl rfl (hon 11 (by kernel_rfl)) rfl
          have e84 : a.tmps[84]? = some (.bool false) := by rw [ha]; exact putSel_on (e := (8, 84, .bool false)) 8 rfl rfl (hon 8 (by kernel_rfl)) rfl
          replace ha := Aside0.mk ha
          have HB := Aside0.mk Q_HB
          refine call_ 22 #[.agg #[.int .i64 bL, .int .i64 bT, .int .i64 bW, .int .i64 bH, .slice Ab br.length cb], .int .i64 X, .int .i64 y] (wanted_on rfl rfl rfl (e84.trans rfl)) rfl ?_ ?_
          · go_simp
          refine (get_any bL bT bW bH X y Ab cb br w' (Kd.C_below KB.out HB.out) LB.out HUb.out).mono ?_
          rintro e w2' ⟨rfl, hb⟩
          rw [GB.out]
          refine ⟨_, rfl, ?_⟩
          refine hK.out _ _ ⟨vt, m17_, (by rw [ha.out]; exact putSel_upk 12 hb_ rfl rfl rfl), bthen' HB.out hb, fun h0_ _ => absurd ((hoff 17 (by kernel_rfl)).symm.trans h0_) (by decide), fun h0_ => absurd ((hoff 17 (by kernel_rfl)).symm.trans h0_) (by decide)⟩
        refine steps_cons ?_ ?_
        · rintro b a w' ⟨vt, m17_, ha, Q_HB, Q_RT, Q_X17_⟩ hb_ hon hoff
          refine ⟨_, rfl, fun K hK => ?_⟩
          have e84 : a.tmps[84]? = some (.bool false) := by rw [ha]; exact putSel_on (e := (8, 84, .bool false)) 8 rfl rfl (hon 8 (by kernel_rfl)) rfl
          have e88 : a.tmps[88]? = some (.bool pb) := by rw [ha]; exact putSel_on (e := (12, 88, .bool pb)) 12 rfl rfl (hon 12 (by kernel_rfl)) rfl
          replace ha := Aside0.mk ha
          have HB := Aside0.mk Q_HB
          refine value_ (w1 := w') (v := .bool pb) (by rfl) rfl ?_ ?_
          · go_simp
            (try simp only [i64_w])
            try rfl
          refine hK.out _ _ ⟨vt, m17_, (by rw [ha.out]; exact putSel_upk 13 hb_ rfl rfl rfl), Q_HB, fun h0_ _ => absurd ((hoff 17 (by kernel_rfl)).symm.trans h0_) (by decide), fun h0_ => absurd ((hoff 17 (by kernel_rfl)).symm.trans h0_) (by decide)⟩
        refine steps_cons ?_ ?_
        · rintro b a w' ⟨vt, m17_, ha, Q_HB, Q_RT, Q_X17_⟩ hb_ hon hoff
          refine ⟨_, rfl, fun K hK => ?_⟩
          have e79 : a.tmps[79]? = some (.bool pb) := by rw [ha]; exact putSel_on (e := (3, 79, .bool pb)) 3 rfl rfl (hon 3 (by kernel_rfl)) rfl
          have e89 : a.tmps[89]? = some (.bool pb) := by rw [ha]; exact putSel_on (e := (13, 89, .bool pb)) 13 rfl rfl (hon 13 (by kernel_rfl)) rfl
          replace ha := Aside0.mk ha
          have HB := Aside0.mk Q_HB
          have y0 : (pb != pb) = false := by simp
          refine value_ (w1 := w') (v := .bool false) (by rfl) rfl ?_ ?_
          · go_simp
            (try simp only [i64_w])
            try rfl
          refine hK.out _ _ ⟨vt, m17_, (by rw [ha.out]; exact putSel_upk 14 hb_ rfl rfl rfl), Q_HB, fun h0_ _ => absurd ((hoff 17 (by kernel_rfl)).symm.trans h0_) (by decide), fun h0_ => absurd ((hoff 17 (by kernel_rfl)).symm.trans h0_) (by decide)⟩
        refine steps_cons ?_ ?_
        · rintro b a w' ⟨vt, m17_, ha, Q_HB, Q_RT, Q_X17_⟩ hb_ hon hoff
          refine ⟨_, rfl, fun K hK => ?_⟩
          have e90 : a.tmps[90]? = some (.bool false) := by rw [ha]; exact putSel_on (e := (14, 90, .bool false)) 14 rfl rfl (hon 14 (by kernel_rfl)) rfl
          replace ha := Aside0.mk ha
          have HB := Aside0.mk Q_HB
          refine value_ (w1 := w') (v := .bool false) (by rfl) rfl ?_ ?_
          · go_simp
            (try simp only [i64_w])
            try rfl
          refine hK.out _ _ ⟨vt, m17_, (by rw [ha.out]; exact putSel_upk 15 hb_ rfl rfl rfl), Q_HB, fun h0_ _ => absurd ((hoff 17 (by kernel_rfl)).symm.trans h0_) (by decide), fun h0_ => absurd ((hoff 17 (by kernel_rfl)).symm.trans h0_) (by decide)⟩
        refine steps_cons ?_ ?_
        · rintro b a w' ⟨vt, m17_, ha, Q_HB, Q_RT, Q_X17_⟩ hb_ hon hoff
          refine ⟨_, rfl, fun K hK => ?_⟩
          have e11 : a.tmps[11]? = some (.pointer (some ⟨g11, 0, none⟩)) := by rw [ha]; exact (putSel_off rfl).trans rfl
          have e91 : a.tmps[91]? = some (.bool false) := by rw [ha]; exact putSel_on (e := (15, 91, .bool false)) 15 rfl rfl (hon 15 (by kernel_rfl)) rfl
          replace ha := Aside0.mk ha
          have HB := Aside0.mk Q_HB
          have q0 : w'.cell? ⟨g11, 0, none⟩ = some (.int .i64 cL) := pw_cell_below HB.out (XC.out.cell 0)
          have q1 : w'.cell? ⟨g11, 1, none⟩ = some (.int .i64 cT) := pw_cell_below HB.out (XC.out.cell 1)
          have q2 : w'.cell? ⟨g11, 2, none⟩ = some (.int .i64 cW) := pw_cell_below HB.out (XC.out.cell 2)
          have q3 : w'.cell? ⟨g11, 3, none⟩ = some (.int .i64 cH) := pw_cell_below HB.out (XC.out.cell 3)
          have q4 : w'.cell? ⟨g11, 4, none⟩ = some (.slice Ac cr.length cc) := pw_cell_below HB.out (XC.out.cell 4)
          refine value_ (w1 := w') (v := .agg #[.int .i64 cL, .int .i64 cT, .int .i64 cW, .int .i64 cH, .slice Ac cr.length cc]) (wanted_on rfl rfl rfl (e91.trans (by first | rfl | (simp [*]; done)))) rfl ?_ ?_
          · go_simp
            (try simp only [i64_w])
            try rfl
          refine hK.out _ _ ⟨vt, m17_, (by rw [ha.out]; exact putSel_upk 16 hb_ rfl rfl rfl), Q_HB, fun h0_ _ => absurd ((hoff 17 (by kernel_rfl)).symm.trans h0_) (by decide), fun h0_ => absurd ((hoff 17 (by kernel_rfl)).symm.trans h0_) (by decide)⟩
        refine steps_cons ?_ ?_
        · rintro b a w' ⟨vt, m17_, ha, Q_HB, Q_RT, Q_X17_⟩ hb_ hon hoff
          refine ⟨_, rfl, fun K hK => ?_⟩
          have e92 : a.tmps[92]? = some (.agg #[.int .i64 cL, .int .i64 cT, .int .i64 cW, .int .i64 cH, .slice Ac cr.length cc]) := by rw [ha]; exact putSel_on (e := (16, 92, .agg #[.int .i64 cL, .int .i64 cT, .int .i64 cW, .int .i64 cH, .slice Ac cr.length cc])) 16 rfl rfl (hon 16 (by kernel_rfl)) rfl
          have e91 : a.tmps[91]? = some (.bool false) := by rw [ha]; exact putSel_on (e := (15, 91, .bool false)) 15 rfl rfl (hon 15 (by kernel_rfl)) rfl
          replace ha := Aside0.mk ha
          have HB := Aside0.mk Q_HB
          refine call_ 21 #[.agg #[.int .i64 cL, .int .i64 cT, .int .i64 cW, .int .i64 cH, .slice Ac cr.length cc]] (wanted_on rfl rfl rfl (e91.trans rfl)) rfl ?_ ?_
          · go_simp
          refine (trim_any cL cT cW cH Ac cc cr w' (HT9.out.below HB.out) (Kd.C_below KC.out HB.out) LC.out HUc.out).mono ?_
          rintro e w2' ⟨vv, rfl, hR, hb⟩
          rw [HTR.out] at hR ⊢
          refine ⟨_, rfl, ?_⟩
          refine hK.out _ _ ⟨vv, (.agg #[.int .i64 tL, .int .i64 tT, .int .i64 tW, .int .i64 tH, vv]), (by rw [ha.out]; exact putSel_upk 17 hb_ rfl rfl rfl), bthen' HB.out hb, fun _ _ => Kd.R_lower hR HB.out.size, fun _ => rfl⟩
        refine steps_cons ?_ ?_
        · rintro b a w' ⟨vt, m17_, ha, Q_HB, Q_RT, Q_X17_⟩ hb_ hon hoff
          refine ⟨_, rfl, fun K hK => ?_⟩
          have e10 : a.tmps[10]? = some (.int .i64 X) := by rw [ha]; exact (putSel_off rfl).trans rfl
          have e91 : a.tmps[91]? = some (.bool false) := by rw [ha]; exact putSel_on (e := (15, 91, .bool false)) 15 rfl rfl (hon 15 (by kernel_rfl)) rfl
          replace ha := Aside0.mk ha
          have HB := Aside0.mk Q_HB
          refine value_ (w1 := w') (v := .int .i64 X) (wanted_on rfl rfl rfl (e91.trans (by first | rfl | (simp [*]; done)))) rfl ?_ ?_
          · go_simp
            (try simp only [i64_w])
            try rfl
          refine hK.out _ _ ⟨vt, m17_, (by rw [ha.out]; exact putSel_upk 18 hb_ rfl rfl rfl), Q_HB, Q_RT, Q_X17_⟩
        refine steps_cons ?_ ?_
        · rintro b a w' ⟨vt, m17_, ha, Q_HB, Q_RT, Q_X17_⟩ hb_ hon hoff
          refine ⟨_, rfl, fun K hK => ?_⟩
          have e17 : a.tmps[17]? = some (.int .i64 y) := by rw [ha]; exact (putSel_off rfl).trans rfl
          have e91 : a.tmps[91]? = some (.bool false) := by rw [ha]; exact putSel_on (e := (15, 91, .bool false)) 15 rfl rfl (hon 15 (by kernel_rfl)) rfl
          replace ha := Aside0.mk ha
          have HB := Aside0.mk Q_HB
          refine value_ (w1 := w') (v := .int .i64 y) (wanted_on rfl rfl rfl (e91.trans (by first | rfl | (simp [*]; done)))) rfl ?_ ?_
          · go_simp
            (try simp only [i64_w])
            try rfl
          refine hK.out _ _ ⟨vt, m17_, (by rw [ha.out]; exact putSel_upk 19 hb_ rfl rfl rfl), Q_HB, Q_RT, Q_X17_⟩
        refine steps_cons ?_ ?_
        · rintro b a w' ⟨vt, m17_, ha, Q_HB, Q_RT, Q_X17_⟩ hb_ hon hoff
          refine ⟨_, rfl, fun K hK => ?_⟩
          have e93 : a.tmps[93]? = some (m17_) := by rw [ha]; exact putSel_on (e := (17, 93, m17_)) 17 rfl rfl (hon 17 (by kernel_rfl)) rfl
          rw [Q_X17_ (hon 17 (by kernel_rfl))] at e93
          have e94 : a.tmps[94]? = some (.int .i64 X) := by rw [ha]; exact putSel_on (e := (18, 94, .int .i64 X)) 18 rfl rfl (hon 18 (by kernel_rfl)) rfl
          have e95 : a.tmps[95]? = some (.int .i64 y) := by rw [ha]; exact putSel_on (e := (19, 95, .int .i64 y)) 19 rfl rfl (hon 19 (by kernel_rfl)) rfl
          have e91 : a.tmps[91]? = some (.bool false) := by rw [ha]; exact putSel_on (e := (15, 91, .bool false)) 15 rfl rfl (hon 15 (by kernel_rfl)) rfl
          replace ha := Aside0.mk ha
          have HB := Aside0.mk Q_HB
          have RT := Aside0.mk (Q_RT (hon 17 (by kernel_rfl)) hb_)
          obtain ⟨At, ct, rfl⟩ := Kd.R_slice RT.out
          refine call_ 22 #[.agg #[.int .i64 tL, .int .i64 tT, .int .i64 tW, .int .i64 tH, .slice At tr.length ct], .int .i64 X, .int .i64 y] (wanted_on rfl rfl rfl (e91.trans rfl)) rfl ?_ ?_
          · go_simp
          refine (get_any tL tT tW tH X y At ct tr w' (Kd.R_reads' RT.out).2.2 (Kd.R_reads' RT.out).2.1 HUt.out).mono ?_
          rintro e w2' ⟨rfl, hb⟩
          rw [GT.out]
          refine ⟨_, rfl, ?_⟩
          refine hK.out _ _ ⟨(.slice At tr.length ct), m17_, (by rw [ha.out]; exact putSel_upk 20 hb_ rfl rfl rfl), bthen' HB.out hb, fun _ h1_ => absurd ((up_self b 20).symm.trans h1_) (by decide), Q_X17_⟩
        refine steps_cons ?_ ?_
        · rintro b a w' ⟨vt, m17_, ha, Q_HB, Q_RT, Q_X17_⟩ hb_ hon hoff
          refine ⟨_, rfl, fun K hK => ?_⟩
          have e11 : a.tmps[11]? = some (.pointer (some ⟨g11, 0, none⟩)) := by rw [ha]; exact (putSel_off rfl).trans rfl
          have e91 : a.tmps[91]? = some (.bool false) := by rw [ha]; exact putSel_on (e := (15, 91, .bool false)) 15 rfl rfl (hon 15 (by kernel_rfl)) rfl
          replace ha := Aside0.mk ha
          have HB := Aside0.mk Q_HB
          have q0 : w'.cell? ⟨g11, 0, none⟩ = some (.int .i64 cL) := pw_cell_below HB.out (XC.out.cell 0)
          have q1 : w'.cell? ⟨g11, 1, none⟩ = some (.int .i64 cT) := pw_cell_below HB.out (XC.out.cell 1)
          have q2 : w'.cell? ⟨g11, 2, none⟩ = some (.int .i64 cW) := pw_cell_below HB.out (XC.out.cell 2)
          have q3 : w'.cell? ⟨g11, 3, none⟩ = some (.int .i64 cH) := pw_cell_below HB.out (XC.out.cell 3)
          have q4 : w'.cell? ⟨g11, 4, none⟩ = some (.slice Ac cr.length cc) := pw_cell_below HB.out (XC.out.cell 4)
          refine value_ (w1 := w') (v := .agg #[.int .i64 cL, .int .i64 cT, .int .i64 cW, .int .i64 cH, .slice Ac cr.length cc]) (wanted_on rfl rfl rfl (e91.trans (by first | rfl | (simp [*]; done)))) rfl ?_ ?_
          · go_simp
            (try simp only [i64_w])
            try rfl
          refine hK.out _ _ ⟨vt, m17_, (by rw [ha.out]; exact putSel_upk 21 hb_ rfl rfl rfl), Q_HB, Q_RT, Q_X17_⟩
        refine steps_cons ?_ ?_
        · rintro b a w' ⟨vt, m17_, ha, Q_HB, Q_RT, Q_X17_⟩ hb_ hon hoff
          refine ⟨_, rfl, fun K hK => ?_⟩
          have e10 : a.tmps[10]? = some (.int .i64 X) := by rw [ha]; exact (putSel_off rfl).trans rfl
          have e91 : a.tmps[91]? = some (.bool false) := by rw [ha]; exact putSel_on (e := (15, 91, .bool false)) 15 rfl rfl (hon 15 (by kernel_rfl)) rfl
          replace ha := Aside0.mk ha
          have HB := Aside0.mk Q_HB
          refine value_ (w1 := w') (v := .int .i64 X) (wanted_on rfl rfl rfl (e91.trans (by first | rfl | (simp [*]; done)))) rfl ?_ ?_
          · go_simp
            (try simp only [i64_w])
            try rfl
          refine hK.out _ _ ⟨vt, m17_, (by rw [ha.out]; exact putSel_upk 22 hb_ rfl rfl rfl), Q_HB, Q_RT, Q_X17_⟩
        refine steps_cons ?_ ?_
        · rintro b a w' ⟨vt, m17_, ha, Q_HB, Q_RT, Q_X17_⟩ hb_ hon hoff
          refine ⟨_, rfl, fun K hK => ?_⟩
          have e17 : a.tmps[17]? = some (.int .i64 y) := by rw [ha]; exact (putSel_off rfl).trans rfl
          have e91 : a.tmps[91]? = some (.bool false) := by rw [ha]; exact putSel_on (e := (15, 91, .bool false)) 15 rfl rfl (hon 15 (by kernel_rfl)) rfl
          replace ha := Aside0.mk ha
          have HB := Aside0.mk Q_HB
          refine value_ (w1 := w') (v := .int .i64 y) (wanted_on rfl rfl rfl (e91.trans (by first | rfl | (simp [*]; done)))) rfl ?_ ?_
          · go_simp
            (try simp only [i64_w])
            try rfl
          refine hK.out _ _ ⟨vt, m17_, (by rw [ha.out]; exact putSel_upk 23 hb_ rfl rfl rfl), Q_HB, Q_RT, Q_X17_⟩
        refine steps_cons ?_ ?_
        · rintro b a w' ⟨vt, m17_, ha, Q_HB, Q_RT, Q_X17_⟩ hb_ hon hoff
          refine ⟨_, rfl, fun K hK => ?_⟩
          have e97 : a.tmps[97]? = some (.agg #[.int .i64 cL, .int .i64 cT, .int .i64 cW, .int .i64 cH, .slice Ac cr.length cc]) := by rw [ha]; exact putSel_on (e := (21, 97, .agg #[.int .i64 cL, .int .i64 cT, .int .i64 cW, .int .i64 cH, .slice Ac cr.length cc])) 21 rfl rfl (hon 21 (by kernel_rfl)) rfl
          have e98 : a.tmps[98]? = some (.int .i64 X) := by rw [ha]; exact putSel_on (e := (22, 98, .int .i64 X)) 22 rfl rfl (hon 22 (by kernel_rfl)) rfl
          have e99 : a.tmps[99]? = some (.int .i64 y) := by rw [ha]; exact putSel_on (e := (23, 99, .int .i64 y)) 23 rfl rfl (hon 23 (by kernel_rfl)) rfl
          have e91 : a.tmps[91]? = some (.bool false) := by rw [ha]; exact putSel_on (e := (15, 91, .bool false)) 15 rfl rfl (hon 15 (by kernel_rfl)) rfl
          replace ha := Aside0.mk ha
          have HB := Aside0.mk Q_HB
          refine call_ 22 #[.agg #[.int .i64 cL, .int .i64 cT, .int .i64 cW, .int .i64 cH, .slice Ac cr.length cc], .int .i64 X, .int .i64 y] (wanted_on rfl rfl rfl (e91.trans rfl)) rfl ?_ ?_
          · go_simp
          refine (get_any cL cT cW cH X y Ac cc cr w' (Kd.C_below KC.out HB.out) LC.out HUc.out).mono ?_
          rintro e w2' ⟨rfl, hb⟩
          rw [GC.out]
          refine ⟨_, rfl, ?_⟩
          refine hK.out _ _ ⟨vt, m17_, (by rw [ha.out]; exact putSel_upk 24 hb_ rfl rfl rfl), bthen' HB.out hb, fun _ h1_ => absurd ((hon 20 (by kernel_rfl)).symm.trans h1_) (by decide), Q_X17_⟩
        refine steps_cons ?_ ?_
        · rintro b a w' ⟨vt, m17_, ha, Q_HB, Q_RT, Q_X17_⟩ hb_ hon hoff
          refine ⟨_, rfl, fun K hK => ?_⟩
          have e96 : a.tmps[96]? = some (.bool pb) := by rw [ha]; exact putSel_on (e := (20, 96, .bool pb)) 20 rfl rfl (hon 20 (by kernel_rfl)) rfl
          have e100 : a.tmps[100]? = some (.bool pb) := by rw [ha]; exact putSel_on (e := (24, 100, .bool pb)) 24 rfl rfl (hon 24 (by kernel_rfl)) rfl
          have e91 : a.tmps[91]? = some (.bool false) := by rw [ha]; exact putSel_on (e := (15, 91, .bool false)) 15 rfl rfl (hon 15 (by kernel_rfl)) rfl
          replace ha := Aside0.mk ha
          have HB := Aside0.mk Q_HB
          have y0 : (pb != pb) = false := by simp
          refine value_ (w1 := w') (v := .bool false) (wanted_on rfl rfl rfl (e91.trans (by first | rfl | (simp [*]; done)))) rfl ?_ ?_
          · go_simp
            (try simp only [i64_w])
            try rfl
          refine hK.out _ _ ⟨vt, m17_, (by rw [ha.out]; exact putSel_upk 25 hb_ rfl rfl rfl), Q_HB, fun _ h1_ => absurd ((hon 20 (by kernel_rfl)).symm.trans h1_) (by decide), Q_X17_⟩
        refine steps_cons ?_ ?_
        · rintro b a w' ⟨vt, m17_, ha, Q_HB, Q_RT, Q_X17_⟩ hb_ hon hoff
          refine ⟨_, rfl, fun K hK => ?_⟩
          have e91 : a.tmps[91]? = some (.bool false) := by rw [ha]; exact putSel_on (e := (15, 91, .bool false)) 15 rfl rfl (hon 15 (by kernel_rfl)) rfl
          have e101 : a.tmps[101]? = some (.bool false) := by rw [ha]; exact putSel_on (e := (25, 101, .bool false)) 25 rfl rfl (hon 25 (by kernel_rfl)) rfl
          replace ha := Aside0.mk ha
          have HB := Aside0.mk Q_HB
          refine value_ (w1 := w') (v := .bool false) (by rfl) rfl ?_ ?_
          · go_simp
            (try simp only [i64_w])
            try rfl
          refine hK.out _ _ ⟨vt, m17_, (by rw [ha.out]; exact putSel_upk 26 hb_ rfl rfl rfl), Q_HB, fun _ h1_ => absurd ((hon 20 (by kernel_rfl)).symm.trans h1_) (by decide), Q_X17_⟩
        exact steps_nil
      · rintro b a w' hall ⟨vt, m17_, ha, Q_HB, Q_RT, Q_X17_⟩
        clear HB
        have hb0_ := hall 0 (by kernel_rfl)
        have hb1_ := hall 1 (by kernel_rfl)
        have hb2_ := hall 2 (by kernel_rfl)
        have hb3_ := hall 3 (by kernel_rfl)
        have hb4_ := hall 4 (by kernel_rfl)
        have hb5_ := hall 5 (by kernel_rfl)
        have hb6_ := hall 6 (by kernel_rfl)
        have hb7_ := hall 7 (by kernel_rfl)
        have hb8_ := hall 8 (by kernel_rfl)
        have hb9_ := hall 9 (by kernel_rfl)
        have hb10_ := hall 10 (by kernel_rfl)
        have hb11_ := hall 11 (by kernel_rfl)
        have hb12_ := hall 12 (by kernel_rfl)
        have hb13_ := hall 13 (by kernel_rfl)
        have hb14_ := hall 14 (by kernel_rfl)
        have hb15_ := hall 15 (by kernel_rfl)
        have hb16_ := hall 16 (by kernel_rfl)
        have hb17_ := hall 17 (by kernel_rfl)
        have hb18_ := hall 18 (by kernel_rfl)
        have hb19_ := hall 19 (by kernel_rfl)
        have hb20_ := hall 20 (by kernel_rfl)
        have hb21_ := hall 21 (by kernel_rfl)
        have hb22_ := hall 22 (by kernel_rfl)
        have hb23_ := hall 23 (by kernel_rfl)
        have hb24_ := hall 24 (by kernel_rfl)
        have hb25_ := hall 25 (by kernel_rfl)
        have hb26_ := hall 26 (by kernel_rfl)
        subst ha
        obtain rfl := Q_X17_ hb17_
        simp only [putSel, hb0_, hb1_, hb2_, hb3_, hb4_, hb5_, hb6_, hb7_, hb8_, hb9_, hb10_, hb11_, hb12_, hb13_, hb14_, hb15_, hb16_, hb17_, hb18_, hb19_, hb20_, hb21_, hb22_, hb23_, hb24_, hb25_, hb26_, if_true, Act.put, List.setIfInBounds_toArray, List.set_cons_zero, List.set_cons_succ]
        have HB := Aside0.mk Q_HB
        clear Q_HB
        clear Q_RT
        clear hall hb0_ hb1_ hb2_ hb3_ hb4_ hb5_ hb6_ hb7_ hb8_ hb9_ hb10_ hb11_ hb12_ hb13_ hb14_ hb15_ hb16_ hb17_ hb18_ hb19_ hb20_ hb21_ hb22_ hb23_ hb24_ hb25_ hb26_
        have HBn := Lib.hid HB.out
        have e5 := E5.out
        clear HB
        go_wp2_with fail
        go_roundw
        case rel => exact ⟨y + 1, by have := HY.out; omega, by have := HY.out; omega, rfl, HBn⟩
        case measure => have := HY.out; simp [intOf]; omega
    · have GA := Lib.hid hpa
      have GC : Hid (getB ⟨cL, cT, cW, cH, cr⟩ X y = true) := Lib.hid (by rw [hgx.1]; rfl)
      have GT : Hid (getB ⟨tL, tT, tW, tH, tr⟩ X y = true) := Lib.hid (by rw [← HTR.out, hgx.2, GC.out])
      clear hpa hgx
      refine start_ (n := 27) (S := fun w' => True) (ds := []) #[false, false, false, false, false, false, false, false, false, false, false, false, false, false, false, false, false, false, false, false, false, false, false, false, false, false, false] (by kernel_rfl) rfl rfl trivial (fun hHeld => ?_)
      refine with_tabW scJoi.tab13 scJoi.bits13 (fun HT_ HW_ => ?_)
      have HB : Aside0 (Below w9.heap.size w9 wr.drew) := ⟨bdrew HBr.out⟩
      generalize hwd : wr.drew = w1' at *
      clear hwd
      refine inv_at [0, 1, 2, 3, 4, 5, 6, 7, 8, 9, 10, 11, 12, 13, 14, 15, 16, 17, 18, 19, 20, 21, 22, 23, 24, 25, 26] (fun a0_ b a w' => ∃ (vt : Value) (m17_ : Value), a = putSel a0_ b [(0, 76, .agg #[.int .i64 cL, .int .i64 cT, .int .i64 cW, .int .i64 cH, .slice Ac cr.length cc]), (1, 77, .int .i64 X), (2, 78, .int .i64 y), (3, 79, .bool true), (4, 80, .agg #[.int .i64 aL, .int .i64 aT, .int .i64 aW, .int .i64 aH, .slice Aa ar.length ca]), (5, 81, .int .i64 X), (6, 82, .int .i64 y), (7, 83, .bool true), (8, 84, .bool true), (9, 85, undef), (10, 86, undef), (11, 87, undef), (12, 88, undef), (13, 89, .bool true), (14, 90, .bool false), (15, 91, .bool false), (16, 92, .agg #[.int .i64 cL, .int .i64 cT, .int .i64 cW, .int .i64 cH, .slice Ac cr.length cc]), (17, 93, m17_), (18, 94, .int .i64 X), (19, 95, .int .i64 y), (20, 96, .bool true), (21, 97, .agg #[.int .i64 cL, .int .i64 cT, .int .i64 cW, .int .i64 cH, .slice Ac cr.length cc]), (22, 98, .int .i64 X), (23, 99, .int .i64 y), (24, 100, .bool true), (25, 101, .bool false), (26, 102, .bool false)] ∧ (Below w9.heap.size w9 w') ∧ (b 17 = true → b 20 = false → Kd.R (Kd.int .u64) 59 w' w9.heap.size (fun _ => True) vt tr) ∧ (b 17 = true → (m17_ : Value) = .agg #[.int .i64 tL, .int .i64 tT, .int .i64 tW, .int .i64 tH, vt])) HT_.out HW_.out (by kernel_rfl) (by kernel_rfl) ?_ ?_ ?_
      · exact ⟨undef, .bool false, by simp only [putSel, Bool.false_eq_true, if_false], HB.out, fun h_ => absurd h_ (by decide), fun h_ => absurd h_ (by decide)⟩
      · skip
        clear HB
        refine steps_cons ?_ ?_
        · rintro b a w' ⟨vt, m17_, ha, Q_HB, Q_RT, Q_X17_⟩ hb_ hon hoff
          refine ⟨_, rfl, fun K hK => ?_⟩
          have e11 : a.tmps[11]? = some (.pointer (some ⟨g11, 0, none⟩)) := by rw [ha]; exact (putSel_off rfl).trans rfl
          replace ha := Aside0.mk ha
          have HB := Aside0.mk Q_HB
          have q0 : w'.cell? ⟨g11, 0, none⟩ = some (.int .i64 cL) := pw_cell_below HB.out (XC.out.cell 0)
          have q1 : w'.cell? ⟨g11, 1, none⟩ = some (.int .i64 cT) := pw_cell_below HB.out (XC.out.cell 1)
          have q2 : w'.cell? ⟨g11, 2, none⟩ = some (.int .i64 cW) := pw_cell_below HB.out (XC.out.cell 2)
          have q3 : w'.cell? ⟨g11, 3, none⟩ = some (.int .i64 cH) := pw_cell_below HB.out (XC.out.cell 3)
          have q4 : w'.cell? ⟨g11, 4, none⟩ = some (.slice Ac cr.length cc) := pw_cell_below HB.out (XC.out.cell 4)
          refine value_ (w1 := w') (v := .agg #[.int .i64 cL, .int .i64 cT, .int .i64 cW, .int .i64 cH, .slice Ac cr.length cc]) (by rfl) rfl ?_ ?_
          · go_simp
            (try simp only [i64_w])
            try rfl
          refine hK.out _ _ ⟨vt, m17_, (by rw [ha.out]; exact putSel_upk 0 hb_ rfl rfl rfl), Q_HB, fun h0_ _ => absurd ((hoff 17 (by kernel_rfl)).symm.trans h0_) (by decide), fun h0_ => absurd ((hoff 17 (by kernel_rfl)).symm.trans h0_) (by decide)⟩
        refine steps_cons ?_ ?_
        · rintro b a w' ⟨vt, m17_, ha, Q_HB, Q_RT, Q_X17_⟩ hb_ hon hoff
          refine ⟨_, rfl, fun K hK => ?_⟩
          have e10 : a.tmps[10]? = some (.int .i64 X) := by rw [ha]; exact (putSel_off rfl).trans rfl
          replace ha := Aside0.mk ha
          have HB := Aside0.mk Q_HB
          refine value_ (w1 := w') (v := .int .i64 X) (by rfl) rfl ?_ ?_
          · go_simp
            (try simp only [i64_w])
            try rfl
          refine hK.out _ _ ⟨vt, m17_, (by rw [ha.out]; exact putSel_upk 1 hb_ rfl rfl rfl), Q_HB, fun h0_ _ => absurd ((hoff 17 (by kernel_rfl)).symm.trans h0_) (by decide), fun h0_ => absurd ((hoff 17 (by kernel_rfl)).symm.trans h0_) (by decide)⟩
        refine steps_cons ?_ ?_
        · rintro b a w' ⟨vt, m17_, ha, Q_HB, Q_RT, Q_X17_⟩ hb_ hon hoff
          refine ⟨_, rfl, fun K hK => ?_⟩
          have e17 : a.tmps[17]? = some (.int .i64 y) := by rw [ha]; exact (putSel_off rfl).trans rfl
          replace ha := Aside0.mk ha
          have HB := Aside0.mk Q_HB
          refine value_ (w1 := w') (v := .int .i64 y) (by rfl) rfl ?_ ?_
          · go_simp
            (try simp only [i64_w])
            try rfl
          refine hK.out _ _ ⟨vt, m17_, (by rw [ha.out]; exact putSel_upk 2 hb_ rfl rfl rfl), Q_HB, fun h0_ _ => absurd ((hoff 17 (by kernel_rfl)).symm.trans h0_) (by decide), fun h0_ => absurd ((hoff 17 (by kernel_rfl)).symm.trans h0_) (by decide)⟩
        refine steps_cons ?_ ?_
        · rintro b a w' ⟨vt, m17_, ha, Q_HB, Q_RT, Q_X17_⟩ hb_ hon hoff
          refine ⟨_, rfl, fun K hK => ?_⟩
          have e76 : a.tmps[76]? = some (.agg #[.int .i64 cL, .int .i64 cT, .int .i64 cW, .int .i64 cH, .slice Ac cr.length cc]) := by rw [ha]; exact putSel_on (e := (0, 76, .agg #[.int .i64 cL, .int .i64 cT, .int .i64 cW, .int .i64 cH, .slice Ac cr.length cc])) 0 rfl rfl (hon 0 (by kernel_rfl)) rfl
          have e77 : a.tmps[77]? = some (.int .i64 X) := by rw [ha]; exact putSel_on (e := (1, 77, .int .i64 X)) 1 rfl rfl (hon 1 (by kernel_rfl)) rfl
          have e78 : a.tmps[78]? = some (.int .i64 y) := by rw [ha]; exact putSel_on (e := (2, 78, .int .i64 y)) 2 rfl rfl (hon 2 (by kernel_rfl)) rfl
          replace ha := Aside0.mk ha
          have HB := Aside0.mk Q_HB
          refine call_ 22 #[.agg #[.int .i64 cL, .int .i64 cT, .int .i64 cW, .int .i64 cH, .slice Ac cr.length cc], .int .i64 X, .int .i64 y] (by rfl) rfl ?_ ?_
          · go_simp
          refine (get_any cL cT cW cH X y Ac cc cr w' (Kd.C_below KC.out HB.out) LC.out HUc.out).mono ?_
          rintro e w2' ⟨rfl, hb⟩
          rw [GC.out]
          refine ⟨_, rfl, ?_⟩
          refine hK.out _ _ ⟨vt, m17_, (by rw [ha.out]; exact putSel_upk 3 hb_ rfl rfl rfl), bthen' HB.out hb, fun h0_ _ => absurd ((hoff 17 (by kernel_rfl)).symm.trans h0_) (by decide), fun h0_ => absurd ((hoff 17 (by kernel_rfl)).symm.trans h0_) (by decide)⟩
        refine steps_cons ?_ ?_
        · rintro b a w' ⟨vt, m17_, ha, Q_HB, Q_RT, Q_X17_⟩ hb_ hon hoff
          refine ⟨_, rfl, fun K hK => ?_⟩
          have e8 : a.tmps[8]? = some (.pointer (some ⟨g8, 0, none⟩)) := by rw [ha]; exact (putSel_off rfl).trans rfl
          replace ha := Aside0.mk ha
          have HB := Aside0.mk Q_HB
          have q0 : w'.cell? ⟨g8, 0, none⟩ = some (.int .i64 aL) := pw_cell_below HB.out (XA.out.cell 0)
          have q1 : w'.cell? ⟨g8, 1, none⟩ = some (.int .i64 aT) := pw_cell_below HB.out (XA.out.cell 1)
          have q2 : w'.cell? ⟨g8, 2, none⟩ = some (.int .i64 aW) := pw_cell_below HB.out (XA.out.cell 2)
          have q3 : w'.cell? ⟨g8, 3, none⟩ = some (.int .i64 aH) := pw_cell_below HB.out (XA.out.cell 3)
          have q4 : w'.cell? ⟨g8, 4, none⟩ = some (.slice Aa ar.length ca) := pw_cell_below HB.out (XA.out.cell 4)
          refine value_ (w1 := w') (v := .agg #[.int .i64 aL, .int .i64 aT, .int .i64 aW, .int .i64 aH, .slice Aa ar.length ca]) (by rfl) rfl ?_ ?_
          · go_simp
            (try simp only [i64_w])
            try rfl
          refine hK.out _ _ ⟨vt, m17_, (by rw [ha.out]; exact putSel_upk 4 hb_ rfl rfl rfl), Q_HB, fun h0_ _ => absurd ((hoff 17 (by kernel_rfl)).symm.trans h0_) (by decide), fun h0_ => absurd ((hoff 17 (by kernel_rfl)).symm.trans h0_) (by decide)⟩
        refine steps_cons ?_ ?_
        · rintro b a w' ⟨vt, m17_, ha, Q_HB, Q_RT, Q_X17_⟩ hb_ hon hoff
          refine ⟨_, rfl, fun K hK => ?_⟩
          have e10 : a.tmps[10]? = some (.int .i64 X) := by rw [ha]; exact (putSel_off rfl).trans rfl
          replace ha := Aside0.mk ha
          have HB := Aside0.mk Q_HB
          refine value_ (w1 := w') (v := .int .i64 X) (by rfl) rfl ?_ ?_
          · go_simp
            (try simp only [i64_w])
            try rfl
          refine hK.out _ _ ⟨vt, m17_, (by rw [ha.out]; exact putSel_upk 5 hb_ rfl rfl rfl), Q_HB, fun h0_ _ => absurd ((hoff 17 (by kernel_rfl)).symm.trans h0_) (by decide), fun h0_ => absurd ((hoff 17 (by kernel_rfl)).symm.trans h0_) (by decide)⟩
        refine steps_cons ?_ ?_
        · rintro b a w' ⟨vt, m17_, ha, Q_HB, Q_RT, Q_X17_⟩ hb_ hon hoff
          refine ⟨_, rfl, fun K hK => ?_⟩
          have e17 : a.tmps[17]? = some (.int .i64 y) := by rw [ha]; exact (putSel_off rfl).trans rfl
          replace ha := Aside0.mk ha
          have HB := Aside0.mk Q_HB
          refine value_ (w1 := w') (v := .int .i64 y) (by rfl) rfl ?_ ?_
          · go_simp
            (try simp only [i64_w])
            try rfl
          refine hK.out _ _ ⟨vt, m17_, (by rw [ha.out]; exact putSel_upk 6 hb_ rfl rfl rfl), Q_HB, fun h0_ _ => absurd ((hoff 17 (by kernel_rfl)).symm.trans h0_) (by decide), fun h0_ => absurd ((hoff 17 (by kernel_rfl)).symm.trans h0_) (by decide)⟩
        refine steps_cons ?_ ?_
        · rintro b a w' ⟨vt, m17_, ha, Q_HB, Q_RT, Q_X17_⟩ hb_ hon hoff
          refine ⟨_, rfl, fun K hK => ?_⟩
          have e80 : a.tmps[80]? = some (.agg #[.int .i64 aL, .int .i64 aT, .int .i64 aW, .int .i64 aH, .slice Aa ar.length ca]) := by rw [ha]; exact putSel_on (e := (4, 80, .agg #[.int .i64 aL, .int .i64 aT, .int .i64 aW, .int .i64 aH, .slice Aa ar.length ca])) 4 rfl rfl (hon 4 (by kernel_rfl)) rfl
          have e81 : a.tmps[81]? = some (.int .i64 X) := by rw [ha]; exact putSel_on (e := (5, 81, .int .i64 X)) 5 rfl rfl (hon 5 (by kernel_rfl)) rfl
          have e82 : a.tmps[82]? = some (.int .i64 y) := by rw [ha]; exact putSel_on (e := (6, 82, .int .i64 y)) 6 rfl rfl (hon 6 (by kernel_rfl)) rfl
          replace ha := Aside0.mk ha
          have HB := Aside0.mk Q_HB
          refine call_ 22 #[.agg #[.int .i64 aL, .int .i64 aT, .int .i64 aW, .int .i64 aH, .slice Aa ar.length ca], .int .i64 X, .int .i64 y] (by rfl) rfl ?_ ?_
          · go_simp
          refine (get_any aL aT aW aH X y Aa ca ar w' (Kd.C_below KA.out HB.out) LA.out HUa.out).mono ?_
          rintro e w2' ⟨rfl, hb⟩
          rw [GA.out]
          refine ⟨_, rfl, ?_⟩
          refine hK.out _ _ ⟨vt, m17_, (by rw [ha.out]; exact putSel_upk 7 hb_ rfl rfl rfl), bthen' HB.out hb, fun h0_ _ => absurd ((hoff 17 (by kernel_rfl)).symm.trans h0_) (by decide), fun h0_ => absurd ((hoff 17 (by kernel_rfl)).symm.trans h0_) (by decide)⟩
        refine steps_cons ?_ ?_
        · rintro b a w' ⟨vt, m17_, ha, Q_HB, Q_RT, Q_X17_⟩ hb_ hon hoff
          refine ⟨_, rfl, fun K hK => ?_⟩
          have e83 : a.tmps[83]? = some (.bool true) := by rw [ha]; exact putSel_on (e := (7, 83, .bool true)) 7 rfl rfl (hon 7 (by kernel_rfl)) rfl
          replace ha := Aside0.mk ha
          have HB := Aside0.mk Q_HB
          refine value_ (w1 := w') (v := .bool true) (by rfl) rfl ?_ ?_
          · go_simp
            (try simp only [i64_w])
            try rfl
          refine hK.out _ _ ⟨vt, m17_, (by rw [ha.out]; exact putSel_upk 8 hb_ rfl rfl rfl), Q_HB, fun h0_ _ => absurd ((hoff 17 (by kernel_rfl)).symm.trans h0_) (by decide), fun h0_ => absurd ((hoff 17 (by kernel_rfl)).symm.trans h0_) (by decide)⟩
        refine steps_cons ?_ ?_
        · rintro b a w' ⟨vt, m17_, ha, Q_HB, Q_RT, Q_X17_⟩ hb_ hon hoff
          refine ⟨_, rfl, fun K hK => ?_⟩
          have e84 : a.tmps[84]? = some (.bool true) := by rw [ha]; exact putSel_on (e := (8, 84, .bool true)) 8 rfl rfl (hon 8 (by kernel_rfl)) rfl
          replace ha := Aside0.mk ha
          have HB := Aside0.mk Q_HB
          refine off_ (wanted_off rfl rfl rfl (e84.trans (by first | rfl | (simp [*]; done)))) ?_
          refine hK.out _ _ ⟨vt, m17_, (by rw [ha.out]; exact putSel_upk 9 hb_ rfl rfl rfl), Q_HB, fun h0_ _ => absurd ((hoff 17 (by kernel_rfl)).symm.trans h0_) (by decide), fun h0_ => absurd ((hoff 17 (by kernel_rfl)).symm.trans h0_) (by decide)⟩
        refine steps_cons ?_ ?_
        · rintro b a w' ⟨vt, m17_, ha, Q_HB, Q_RT, Q_X17_⟩ hb_ hon hoff
          refine ⟨_, rfl, fun K hK => ?_⟩
          have e84 : a.tmps[84]? = some (.bool true) := by rw [ha]; exact putSel_on (e := (8, 84, .bool true)) 8 rfl rfl (hon 8 (by kernel_rfl)) rfl
          replace ha := Aside0.mk ha
          have HB := Aside0.mk Q_HB
          refine off_ (wanted_off rfl rfl rfl (e84.trans (by first | rfl | (simp [*]; done)))) ?_
          refine hK.out _ _ ⟨vt, m17_, (by rw [ha.out]; exact putSel_upk 10 hb_ rfl rfl rfl), Q_HB, fun h0_ _ => absurd ((hoff 17 (by kernel_rfl)).symm.trans h0_) (by decide), fun h0_ => absurd ((hoff 17 (by kernel_rfl)).symm.trans h0_) (by decide)⟩
        refine steps_cons ?_ ?_
        · rintro b a w' ⟨vt, m17_, ha, Q_HB, Q_RT, Q_X17_⟩ hb_ hon hoff
          refine ⟨_, rfl, fun K hK => ?_⟩
          have e84 : a.tmps[84]? = some (.bool true) := by rw [ha]; exact putSel_on (e := (8, 84, .bool true)) 8 rfl rfl (hon 8 (by kernel_rfl)) rfl
          replace ha := Aside0.mk ha
          have HB := Aside0.mk Q_HB
          refine off_ (wanted_off rfl rfl rfl (e84.trans (by first | rfl | (simp [*]; done)))) ?_
          refine hK.out _ _ ⟨vt, m17_, (by rw [ha.out]; exact putSel_upk 11 hb_ rfl rfl rfl), Q_HB, fun h0_ _ => absurd ((hoff 17 (by kernel_rfl)).symm.trans h0_) (by decide), fun h0_ => absurd ((hoff 17 (by kernel_rfl)).symm.trans h0_) (by decide)⟩
        refine steps_cons ?_ ?_
        · rintro b a w' ⟨vt, m17_, ha, Q_HB, Q_RT, Q_X17_⟩ hb_ hon hoff
          refine ⟨_, rfl, fun K hK => ?_⟩
          have e84 : a.tmps[84]? = some (.bool true) := by rw [ha]; exact putSel_on (e := (8, 84, .bool true)) 8 rfl rfl (hon 8 (by kernel_rfl)) rfl
          replace ha := Aside0.mk ha
          have HB := Aside0.mk Q_HB
          refine off_ (wanted_off rfl rfl rfl (e84.trans (by first | rfl | (simp [*]; done)))) ?_
          refine hK.out _ _ ⟨vt, m17_, (by rw [ha.out]; exact putSel_upk 12 hb_ rfl rfl rfl), Q_HB, fun h0_ _ => absurd ((hoff 17 (by kernel_rfl)).symm.trans h0_) (by decide), fun h0_ => absurd ((hoff 17 (by kernel_rfl)).symm.trans h0_) (by decide)⟩
        refine steps_cons ?_ ?_
        · rintro b a w' ⟨vt, m17_, ha, Q_HB, Q_RT, Q_X17_⟩ hb_ hon hoff
          refine ⟨_, rfl, fun K hK => ?_⟩
          have e84 : a.tmps[84]? = some (.bool true) := by rw [ha]; exact putSel_on (e := (8, 84, .bool true)) 8 rfl rfl (hon 8 (by kernel_rfl)) rfl
          have e88 : a.tmps[88]? = some (undef) := by rw [ha]; exact putSel_on (e := (12, 88, undef)) 12 rfl rfl (hon 12 (by kernel_rfl)) rfl
          replace ha := Aside0.mk ha
          have HB := Aside0.mk Q_HB
          refine value_ (w1 := w') (v := .bool true) (by rfl) rfl ?_ ?_
          · go_simp
            (try simp only [i64_w])
            try rfl
          refine hK.out _ _ ⟨vt, m17_, (by rw [ha.out]; exact putSel_upk 13 hb_ rfl rfl rfl), Q_HB, fun h0_ _ => absurd ((hoff 17 (by kernel_rfl)).symm.trans h0_) (by decide), fun h0_ => absurd ((hoff 17 (by kernel_rfl)).symm.trans h0_) (by decide)⟩
        refine steps_cons ?_ ?_
        · rintro b a w' ⟨vt, m17_, ha, Q_HB, Q_RT, Q_X17_⟩ hb_ hon hoff
          refine ⟨_, rfl, fun K hK => ?_⟩
          have e79 : a.tmps[79]? = some (.bool true) := by rw [ha]; exact putSel_on (e := (3, 79, .bool true)) 3 rfl rfl (hon 3 (by kernel_rfl)) rfl
          have e89 : a.tmps[89]? = some (.bool true) := by rw [ha]; exact putSel_on (e := (13, 89, .bool true)) 13 rfl rfl (hon 13 (by kernel_rfl)) rfl
          replace ha := Aside0.mk ha
          have HB := Aside0.mk Q_HB
          have y0 : (true != true) = false := by simp
          refine value_ (w1 := w') (v := .bool false) (by rfl) rfl ?_ ?_
          · go_simp
            (try simp only [i64_w])
            try rfl
          refine hK.out _ _ ⟨vt, m17_, (by rw [ha.out]; exact putSel_upk 14 hb_ rfl rfl rfl), Q_HB, fun h0_ _ => absurd ((hoff 17 (by kernel_rfl)).symm.trans h0_) (by decide), fun h0_ => absurd ((hoff 17 (by kernel_rfl)).symm.trans h0_) (by decide)⟩
        refine steps_cons ?_ ?_
        · rintro b a w' ⟨vt, m17_, ha, Q_HB, Q_RT, Q_X17_⟩ hb_ hon hoff
          refine ⟨_, rfl, fun K hK => ?_⟩
          have e90 : a.tmps[90]? = some (.bool false) := by rw [ha]; exact putSel_on (e := (14, 90, .bool false)) 14 rfl rfl (hon 14 (by kernel_rfl)) rfl
          replace ha := Aside0.mk ha
          have HB := Aside0.mk Q_HB
          refine value_ (w1 := w') (v := .bool false) (by rfl) rfl ?_ ?_
          · go_simp
            (try simp only [i64_w])
            try rfl
          refine hK.out _ _ ⟨vt, m17_, (by rw [ha.out]; exact putSel_upk 15 hb_ rfl rfl rfl), Q_HB, fun h0_ _ => absurd ((hoff 17 (by kernel_rfl)).symm.trans h0_) (by decide), fun h0_ => absurd ((hoff 17 (by kernel_rfl)).symm.trans h0_) (by decide)⟩
        refine steps_cons ?_ ?_
        · rintro b a w' ⟨vt, m17_, ha, Q_HB, Q_RT, Q_X17_⟩ hb_ hon hoff
          refine ⟨_, rfl, fun K hK => ?_⟩
          have e11 : a.tmps[11]? = some (.pointer (some ⟨g11, 0, none⟩)) := by rw [ha]; exact (putSel_off rfl).trans rfl
          have e91 : a.tmps[91]? = some (.bool false) := by rw [ha]; exact putSel_on (e := (15, 91, .bool false)) 15 rfl rfl (hon 15 (by kernel_rfl)) rfl
          replace ha := Aside0.mk ha
          have HB := Aside0.mk Q_HB
          have q0 : w'.cell? ⟨g11, 0, none⟩ = some (.int .i64 cL) := pw_cell_below HB.out (XC.out.cell 0)
          have q1 : w'.cell? ⟨g11, 1, none⟩ = some (.int .i64 cT) := pw_cell_below HB.out (XC.out.cell 1)
          have q2 : w'.cell? ⟨g11, 2, none⟩ = some (.int .i64 cW) := pw_cell_below HB.out (XC.out.cell 2)
          have q3 : w'.cell? ⟨g11, 3, none⟩ = some (.int .i64 cH) := pw_cell_below HB.out (XC.out.cell 3)
          have q4 : w'.cell? ⟨g11, 4, none⟩ = some (.slice Ac cr.length cc) := pw_cell_below HB.out (XC.out.cell 4)
          refine value_ (w1 := w') (v := .agg #[.int .i64 cL, .int .i64 cT, .int .i64 cW, .int .i64 cH, .slice Ac cr.length cc]) (wanted_on rfl rfl rfl (e91.trans (by first | rfl | (simp [*]; done)))) rfl ?_ ?_
          · go_simp
            (try simp only [i64_w])
            try rfl
          refine hK.out _ _ ⟨vt, m17_, (by rw [ha.out]; exact putSel_upk 16 hb_ rfl rfl rfl), Q_HB, fun h0_ _ => absurd ((hoff 17 (by kernel_rfl)).symm.trans h0_) (by decide), fun h0_ => absurd ((hoff 17 (by kernel_rfl)).symm.trans h0_) (by decide)⟩
        refine steps_cons ?_ ?_
        · rintro b a w' ⟨vt, m17_, ha, Q_HB, Q_RT, Q_X17_⟩ hb_ hon hoff
          refine ⟨_, rfl, fun K hK => ?_⟩
          have e92 : a.tmps[92]? = some (.agg #[.int .i64 cL, .int .i64 cT, .int .i64 cW, .int .i64 cH, .slice Ac cr.length cc]) := by rw [ha]; exact putSel_on (e := (16, 92, .agg #[.int .i64 cL, .int .i64 cT, .int .i64 cW, .int .i64 cH, .slice Ac cr.length cc])) 16 rfl rfl (hon 16 (by kernel_rfl)) rfl
          have e91 : a.tmps[91]? = some (.bool false) := by rw [ha]; exact putSel_on (e := (15, 91, .bool false)) 15 rfl rfl (hon 15 (by kernel_rfl)) rfl
          replace ha := Aside0.mk ha
          have HB := Aside0.mk Q_HB
          refine call_ 21 #[.agg #[.int .i64 cL, .int .i64 cT, .int .i64 cW, .int .i64 cH, .slice Ac cr.length cc]] (wanted_on rfl rfl rfl (e91.trans rfl)) rfl ?_ ?_
          · go_simp
          refine (trim_any cL cT cW cH Ac cc cr w' (HT9.out.below HB.out) (Kd.C_below KC.out HB.out) LC.out HUc.out).mono ?_
          rintro e w2' ⟨vv, rfl, hR, hb⟩
          rw [HTR.out] at hR ⊢
          refine ⟨_, rfl, ?_⟩
          refine hK.out _ _ ⟨vv, (.agg #[.int .i64 tL, .int .i64 tT, .int .i64 tW, .int .i64 tH, vv]), (by rw [ha.out]; exact putSel_upk 17 hb_ rfl rfl rfl), bthen' HB.out hb, fun _ _ => Kd.R_lower hR HB.out.size, fun _ => rfl⟩
        refine steps_cons ?_ ?_
        · rintro b a w' ⟨vt, m17_, ha, Q_HB, Q_RT, Q_X17_⟩ hb_ hon hoff
          refine ⟨_, rfl, fun K hK => ?_⟩
          have e10 : a.tmps[10]? = some (.int .i64 X) := by rw [ha]; exact (putSel_off rfl).trans rfl
          have e91 : a.tmps[91]? = some (.bool false) := by rw [ha]; exact putSel_on (e := (15, 91, .bool false)) 15 rfl rfl (hon 15 (by kernel_rfl)) rfl
          replace ha := Aside0.mk ha
          have HB := Aside0.mk Q_HB
          refine value_ (w1 := w') (v := .int .i64 X) (wanted_on rfl rfl rfl (e91.trans (by first | rfl | (simp [*]; done)))) rfl ?_ ?_
          · go_simp
            (try simp only [i64_w])
            try rfl
          refine hK.out _ _ ⟨vt, m17_, (by rw [ha.out]; exact putSel_upk 18 hb_ rfl rfl rfl), Q_HB, Q_RT, Q_X17_⟩
        refine steps_cons ?_ ?_
        · rintro b a w' ⟨vt, m17_, ha, Q_HB, Q_RT, Q_X17_⟩ hb_ hon hoff
          refine ⟨_, rfl, fun K hK => ?_⟩
          have e17 : a.tmps[17]? = some (.int .i64 y) := by rw [ha]; exact (putSel_off rfl).trans rfl
          have e91 : a.tmps[91]? = some (.bool false) := by rw [ha]; exact putSel_on (e := (15, 91, .bool false)) 15 rfl rfl (hon 15 (by kernel_rfl)) rfl
          replace ha := Aside0.mk ha
          have HB := Aside0.mk Q_HB
          refine value_ (w1 := w') (v := .int .i64 y) (wanted_on rfl rfl rfl (e91.trans (by first | rfl | (simp [*]; done)))) rfl ?_ ?_
          · go_simp
            (try simp only [i64_w])
            try rfl
          refine hK.out _ _ ⟨vt, m17_, (by rw [ha.out]; exact putSel_upk 19 hb_ rfl rfl rfl), Q_HB, Q_RT, Q_X17_⟩
        refine steps_cons ?_ ?_
        · rintro b a w' ⟨vt, m17_, ha, Q_HB, Q_RT, Q_X17_⟩ hb_ hon hoff
          refine ⟨_, rfl, fun K hK => ?_⟩
          have e93 : a.tmps[93]? = some (m17_) := by rw [ha]; exact putSel_on (e := (17, 93, m17_)) 17 rfl rfl (hon 17 (by kernel_rfl)) rfl
          rw [Q_X17_ (hon 17 (by kernel_rfl))] at e93
          have e94 : a.tmps[94]? = some (.int .i64 X) := by rw [ha]; exact putSel_on (e := (18, 94, .int .i64 X)) 18 rfl rfl (hon 18 (by kernel_rfl)) rfl
          have e95 : a.tmps[95]? = some (.int .i64 y) := by rw [ha]; exact putSel_on (e := (19, 95, .int .i64 y)) 19 rfl rfl (hon 19 (by kernel_rfl)) rfl
          have e91 : a.tmps[91]? = some (.bool false) := by rw [ha]; exact putSel_on (e := (15, 91, .bool false)) 15 rfl rfl (hon 15 (by kernel_rfl)) rfl
          replace ha := Aside0.mk ha
          have HB := Aside0.mk Q_HB
          have RT := Aside0.mk (Q_RT (hon 17 (by kernel_rfl)) hb_)
          obtain ⟨At, ct, rfl⟩ := Kd.R_slice RT.out
          refine call_ 22 #[.agg #[.int .i64 tL, .int .i64 tT, .int .i64 tW, .int .i64 tH, .slice At tr.length ct], .int .i64 X, .int .i64 y] (wanted_on rfl rfl rfl (e91.trans rfl)) rfl ?_ ?_
          · go_simp
          refine (get_any tL tT tW tH X y At ct tr w' (Kd.R_reads' RT.out).2.2 (Kd.R_reads' RT.out).2.1 HUt.out).mono ?_
          rintro e w2' ⟨rfl, hb⟩
          rw [GT.out]
          refine ⟨_, rfl, ?_⟩
          refine hK.out _ _ ⟨(.slice At tr.length ct), m17_, (by rw [ha.out]; exact putSel_upk 20 hb_ rfl rfl rfl), bthen' HB.out hb, fun _ h1_ => absurd ((up_self b 20).symm.trans h1_) (by decide), Q_X17_⟩
        refine steps_cons ?_ ?_
        · rintro b a w' ⟨vt, m17_, ha, Q_HB, Q_RT, Q_X17_⟩ hb_ hon hoff
          refine ⟨_, rfl, fun K hK => ?_⟩
          have e11 : a.tmps[11]? = some (.pointer (some ⟨g11, 0, none⟩)) := by rw [ha]; exact (putSel_off rfl).trans rfl
          have e91 : a.tmps[91]? = some (.bool false) := by rw [ha]; exact putSel_on (e := (15, 91, .bool false)) 15 rfl rfl (hon 15 (by kernel_rfl)) rfl
          replace ha := Aside0.mk ha
          have HB := Aside0.mk Q_HB
          have q0 : w'.cell? ⟨g11, 0, none⟩ = some (.int .i64 cL) := pw_cell_below HB.out (XC.out.cell 0)
          have q1 : w'.cell? ⟨g11, 1, none⟩ = some (.int .i64 cT) := pw_cell_below HB.out (XC.out.cell 1)
          have q2 : w'.cell? ⟨g11, 2, none⟩ = some (.int .i64 cW) := pw_cell_below HB.out (XC.out.cell 2)
          have q3 : w'.cell? ⟨g11, 3, none⟩ = some (.int .i64 cH) := pw_cell_below HB.out (XC.out.cell 3)
          have q4 : w'.cell? ⟨g11, 4, none⟩ = some (.slice Ac cr.length cc) := pw_cell_below HB.out (XC.out.cell 4)
          refine value_ (w1 := w') (v := .agg #[.int .i64 cL, .int .i64 cT, .int .i64 cW, .int .i64 cH, .slice Ac cr.length cc]) (wanted_on rfl rfl rfl (e91.trans (by first | rfl | (simp [*]; done)))) rfl ?_ ?_
          · go_simp
            (try simp only [i64_w])
            try rfl
          refine hK.out _ _ ⟨vt, m17_, (by rw [ha.out]; exact putSel_upk 21 hb_ rfl rfl rfl), Q_HB, Q_RT, Q_X17_⟩
        refine steps_cons ?_ ?_
        · rintro b a w' ⟨vt, m17_, ha, Q_HB, Q_RT, Q_X17_⟩ hb_ hon hoff
          refine ⟨_, rfl, fun K hK => ?_⟩
          have e10 : a.tmps[10]? = some (.int .i64 X) := by rw [ha]; exact (putSel_off rfl).trans rfl
          have e91 : a.tmps[91]? = some (.bool false) := by rw [ha]; exact putSel_on (e := (15, 91, .bool false)) 15 rfl rfl (hon 15 (by kernel_rfl)) rfl
          replace ha := Aside0.mk ha
          have HB := Aside0.mk Q_HB
          refine value_ (w1 := w') (v := .int .i64 X) (wanted_on rfl rfl rfl (e91.trans (by first | rfl | (simp [*]; done)))) rfl ?_ ?_
          · go_simp
            (try simp only [i64_w])
            try rfl
          refine hK.out _ _ ⟨vt, m17_, (by rw [ha.out]; exact putSel_upk 22 hb_ rfl rfl rfl), Q_HB, Q_RT, Q_X17_⟩
        refine steps_cons ?_ ?_
        · rintro b a w' ⟨vt, m17_, ha, Q_HB, Q_RT, Q_X17_⟩ hb_ hon hoff
          refine ⟨_, rfl, fun K hK => ?_⟩
          have e17 : a.tmps[17]? = some (.int .i64 y) := by rw [ha]; exact (putSel_off rfl).trans rfl
          have e91 : a.tmps[91]? = some (.bool false) := by rw [ha]; exact putSel_on (e := (15, 91, .bool false)) 15 rfl rfl (hon 15 (by kernel_rfl)) rfl
          replace ha := Aside0.mk ha
          have HB := Aside0.mk Q_HB
          refine value_ (w1 := w') (v := .int .i64 y) (wanted_on rfl rfl rfl (e91.trans (by first | rfl | (simp [*]; done)))) rfl ?_ ?_
          · go_simp
            (try simp only [i64_w])
            try rfl
          refine hK.out _ _ ⟨vt, m17_, (by rw [ha.out]; exact putSel_upk 23 hb_ rfl rfl rfl), Q_HB, Q_RT, Q_X17_⟩
        refine steps_cons ?_ ?_
        · rintro b a w' ⟨vt, m17_, ha, Q_HB, Q_RT, Q_X17_⟩ hb_ hon hoff
          refine ⟨_, rfl, fun K hK => ?_⟩
          have e97 : a.tmps[97]? = some (.agg #[.int .i64 cL, .int .i64 cT, .int .i64 cW, .int .i64 cH, .slice Ac cr.length cc]) := by rw [ha]; exact putSel_on (e := (21, 97, .agg #[.int .i64 cL, .int .i64 cT, .int .i64 cW, .int .i64 cH, .slice Ac cr.length cc])) 21 rfl rfl (hon 21 (by kernel_rfl)) rfl
          have e98 : a.tmps[98]? = some (.int .i64 X) := by rw [ha]; exact putSel_on (e := (22, 98, .int .i64 X)) 22 rfl rfl (hon 22 (by kernel_rfl)) rfl
          have e99 : a.tmps[99]? = some (.int .i64 y) := by rw [ha]; exact putSel_on (e := (23, 99, .int .i64 y)) 23 rfl rfl (hon 23 (by kernel_rfl)) rfl
          have e91 : a.tmps[91]? = some (.bool false) := by rw [ha]; exact putSel_on (e := (15, 91, .bool false)) 15 rfl rfl (hon 15 (by kernel_rfl)) rfl
          replace ha := Aside0.mk ha
          have HB := Aside0.mk Q_HB
          refine call_ 22 #[.agg #[.int .i64 cL, .int .i64 cT, .int .i64 cW, .int .i64 cH, .slice Ac cr.length cc], .int .i64 X, .int .i64 y] (wanted_on rfl rfl rfl (e91.trans rfl)) rfl ?_ ?_
          · go_simp
          refine (get_any cL cT cW cH X y Ac cc cr w' (Kd.C_below KC.out HB.out) LC.out HUc.out).mono ?_
          rintro e w2' ⟨rfl, hb⟩
          rw [GC.out]
          refine ⟨_, rfl, ?_⟩
          refine hK.out _ _ ⟨vt, m17_, (by rw [ha.out]; exact putSel_upk 24 hb_ rfl rfl rfl), bthen' HB.out hb, fun _ h1_ => absurd ((hon 20 (by kernel_rfl)).symm.trans h1_) (by decide), Q_X17_⟩
        refine steps_cons ?_ ?_
        · rintro b a w' ⟨vt, m17_, ha, Q_HB, Q_RT, Q_X17_⟩ hb_ hon hoff
          refine ⟨_, rfl, fun K hK => ?_⟩
          have e96 : a.tmps[96]? = some (.bool true) := by rw [ha]; exact putSel_on (e := (20, 96, .bool true)) 20 rfl rfl (hon 20 (by kernel_rfl)) rfl
          have e100 : a.tmps[100]? = some (.bool true) := by rw [ha]; exact putSel_on (e := (24, 100, .bool true)) 24 rfl rfl (hon 24 (by kernel_rfl)) rfl
          have e91 : a.tmps[91]? = some (.bool false) := by rw [ha]; exact putSel_on (e := (15, 91, .bool false)) 15 rfl rfl (hon 15 (by kernel_rfl)) rfl
          replace ha := Aside0.mk ha
          have HB := Aside0.mk Q_HB
          have y0 : (true != true) = false := by simp
          refine value_ (w1 := w') (v := .bool false) (wanted_on rfl rfl rfl (e91.trans (by first | rfl | (simp [*]; done)))) rfl ?_ ?_
          · go_simp
            (try simp only [i64_w])
            try rfl
          refine hK.out _ _ ⟨vt, m17_, (by rw [ha.out]; exact putSel_upk 25 hb_ rfl rfl rfl), Q_HB, fun _ h1_ => absurd ((hon 20 (by kernel_rfl)).symm.trans h1_) (by decide), Q_X17_⟩
        refine steps_cons ?_ ?_
        · rintro b a w' ⟨vt, m17_, ha, Q_HB, Q_RT, Q_X17_⟩ hb_ hon hoff
          refine ⟨_, rfl, fun K hK => ?_⟩
          have e91 : a.tmps[91]? = some (.bool false) := by rw [ha]; exact putSel_on (e := (15, 91, .bool false)) 15 rfl rfl (hon 15 (by kernel_rfl)) rfl
          have e101 : a.tmps[101]? = some (.bool false) := by rw [ha]; exact putSel_on (e := (25, 101, .bool false)) 25 rfl rfl (hon 25 (by kernel_rfl)) rfl
          replace ha := Aside0.mk ha
          have HB := Aside0.mk Q_HB
          refine value_ (w1 := w') (v := .bool false) (by rfl) rfl ?_ ?_
          · go_simp
            (try simp only [i64_w])
            try rfl
          refine hK.out _ _ ⟨vt, m17_, (by rw [ha.out]; exact putSel_upk 26 hb_ rfl rfl rfl), Q_HB, fun _ h1_ => absurd ((hon 20 (by kernel_rfl)).symm.trans h1_) (by decide), Q_X17_⟩
        exact steps_nil
      · rintro b a w' hall ⟨vt, m17_, ha, Q_HB, Q_RT, Q_X17_⟩
        clear HB
        have hb0_ := hall 0 (by kernel_rfl)
        have hb1_ := hall 1 (by kernel_rfl)
        have hb2_ := hall 2 (by kernel_rfl)
        have hb3_ := hall 3 (by kernel_rfl)
        have hb4_ := hall 4 (by kernel_rfl)
        have hb5_ := hall 5 (by kernel_rfl)
        have hb6_ := hall 6 (by kernel_rfl)
        have hb7_ := hall 7 (by kernel_rfl)
        have hb8_ := hall 8 (by kernel_rfl)
        have hb9_ := hall 9 (by kernel_rfl)
        have hb10_ := hall 10 (by kernel_rfl)
        have hb11_ := hall 11 (by kernel_rfl)
        have hb12_ := hall 12 (by kernel_rfl)
        have hb13_ := hall 13 (by kernel_rfl)
        have hb14_ := hall 14 (by kernel_rfl)
        have hb15_ := hall 15 (by kernel_rfl)
        have hb16_ := hall 16 (by kernel_rfl)
        have hb17_ := hall 17 (by kernel_rfl)
        have hb18_ := hall 18 (by kernel_rfl)
        have hb19_ := hall 19 (by kernel_rfl)
        have hb20_ := hall 20 (by kernel_rfl)
        have hb21_ := hall 21 (by kernel_rfl)
        have hb22_ := hall 22 (by kernel_rfl)
        have hb23_ := hall 23 (by kernel_rfl)
        have hb24_ := hall 24 (by kernel_rfl)
        have hb25_ := hall 25 (by kernel_rfl)
        have hb26_ := hall 26 (by kernel_rfl)
        subst ha
        obtain rfl := Q_X17_ hb17_
        simp only [putSel, hb0_, hb1_, hb2_, hb3_, hb4_, hb5_, hb6_, hb7_, hb8_, hb9_, hb10_, hb11_, hb12_, hb13_, hb14_, hb15_, hb16_, hb17_, hb18_, hb19_, hb20_, hb21_, hb22_, hb23_, hb24_, hb25_, hb26_, if_true, Act.put, List.setIfInBounds_toArray, List.set_cons_zero, List.set_cons_succ]
        have HB := Aside0.mk Q_HB
        clear Q_HB
        clear Q_RT
        clear hall hb0_ hb1_ hb2_ hb3_ hb4_ hb5_ hb6_ hb7_ hb8_ hb9_ hb10_ hb11_ hb12_ hb13_ hb14_ hb15_ hb16_ hb17_ hb18_ hb19_ hb20_ hb21_ hb22_ hb23_ hb24_ hb25_ hb26_
        have HBn := Lib.hid HB.out
        have e5 := E5.out
        clear HB
        go_wp2_with fail
        go_roundw
        case rel => exact ⟨y + 1, by have := HY.out; omega, by have := HY.out; omega, rfl, HBn⟩
        case measure => have := HY.out; simp [intOf]; omega
  · have dy : decide (y < 50) = false := decide_eq_false hy
    have HBF := Lib.hid (bthen' HBW.out HBr.out)
    clear hy hy0 hy1
    go_wp2_with fail
    go_ret
    exact ⟨rfl, HBF.out⟩
end Go.Proofs.YtleljodcdbhifaaDoor
