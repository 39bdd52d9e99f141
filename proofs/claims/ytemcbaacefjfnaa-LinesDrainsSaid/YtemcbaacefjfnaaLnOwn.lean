/- The walk of LinesOwn. -/
import Derived.Test.YtemcbaacefjfnaaLnOwA
import Derived.Test.YtemcbaacefjfnaaLnAlone
import Derived.Test.YtemcbaacefjfnaaLnS
set_option linter.unusedVariables false
set_option linter.unusedSimpArgs false
namespace Go.Proofs.Ytemcbaacefjfnaa
open Go.RowKit Go.Proofs.YtemcbaacefjfnaaW.PrintWords Go.Proofs.YtemcbaacefjfnaaW.PrintLast

def mO (scr : List Tb) (z : Nat → Int) : Nat → List Wt
  | 0 => []
  | k + 1 => mO scr z k ++ sendL 2 k scr (z k) 0 1 (txB k)
theorem mO_length (scr : List Tb) (z : Nat → Int) (k : Nat) : (mO scr z k).length ≤ 9 * k := by
  induction k with
  | zero => simp [mO]
  | succ k ih =>
    have h : (sendL 2 k scr (z k) 0 1 (txB k)).length ≤ 9 := by
      unfold sendL
      split
      · simp
      · have hc : copiesOf (tbAt scr k) ≤ 9 := by unfold copiesOf clampI; omega
        simpa using hc
    simp only [mO, List.length_append]
    omega
def lnOwn.T14 : Bool × List (List Nat × List Nat) := (true, [([], []), ([], []), ([], []), ([1, 2], [1, 2]), ([3], [3]), ([], []), ([5], [5]), ([6], [6]), ([7], [7]), ([8], [8]), ([0, 4, 9, 9], [0, 4, 9])])
def lnOwn.B14 : List Nat := [0, 0, 0, 6, 14, 0, 32, 96, 224, 480, 1023]
theorem lnOwn.tab14 : rtab .any (opsOf Try.f7 14) = lnOwn.T14 := by kernel_rfl
theorem lnOwn.bits14 : waitsOk lnOwn.T14.2 lnOwn.B14 = true := by kernel_rfl
def lnOwn.T15 : Bool × List (List Nat × List Nat) := (true, [([], []), ([], []), ([], []), ([1, 2], [1, 2]), ([3], [3]), ([], []), ([5], [5]), ([6], [6]), ([7], [7]), ([8], [8]), ([0, 4, 9, 9], [0, 4, 9])])
def lnOwn.B15 : List Nat := [0, 0, 0, 6, 14, 0, 32, 96, 224, 480, 1023]
theorem lnOwn.tab15 : rtab .any (opsOf Try.f7 15) = lnOwn.T15 := by kernel_rfl
theorem lnOwn.bits15 : waitsOk lnOwn.T15.2 lnOwn.B15 = true := by kernel_rfl

set_option maxRecDepth 100000 in
set_option maxHeartbeats 4000000 in
theorem linesOwn_walk (vo : Option Addr) (vl vc : Nat) (scr : List Tb) (oo : Option Addr) (ol oc : Nat) (fo : Nat → Tb) (ao : Option Addr) (len c : Nat) (z : Nat → Int) (w0 : World)
    (hS : SRA w0 (.slice vo vl vc) scr) (hvl : vl = scr.length) (hvc : vl ≤ vc) (hvm : vl ≤ maxLen)
    (hO : ∀ i, i < ol → ∃ a, oo = some a ∧ a.block < w0.heap.size ∧ w0.cell? (a.add (i * 3)) = some (.bool (fo i).lost) ∧ w0.cell? (a.add (i * 3 + 1)) = some (.int .i64 (fo i).cop) ∧ w0.cell? (a.add (i * 3 + 2)) = some (.int .i64 (fo i).del)) (hol : ol ≤ maxLen)
    (hV : ∀ i, i < len → ∃ a, ao = some a ∧ a.block < w0.heap.size ∧ w0.cell? (a.add i) = some (.int .i64 (z i))) (hl : len ≤ maxLen) :
    Calls Try.prog 7 #[.slice vo vl vc, .slice oo ol oc, .slice ao len c] w0 fun e w' => e = .returned (.bool true) ∧ Below w0.heap.size w0 w' := by
  have V := Lib.hid hV
  have O := Lib.hid hO
  have VL := Lib.hid (And.intro hvl hvc)
  have S0 := Lib.hid hS
  clear hV hO hvl hvc hS
  go_enter Try.func7, Try.ntmps7
  go_wp2_with fail
  refine (sanity_any _).mono ?_
  rintro e w1 ⟨rfl, b1⟩
  have H1 := Lib.hid b1
  -- the first forty troubles
  obtain ⟨so, sl, hsh, hss⟩ : ∃ so sl, (∀ w, Calls Try.prog 12 #[.slice vo vl vc] w fun e w' => e = .returned (.slice so sl vc) ∧ w = w') ∧ SRA w1 (.slice so sl vc) (scr.take 40) := by
    rcases S0.out with ⟨h, h2⟩ | ⟨a, c', h, h3, h4⟩
    · cases h
      subst h2
      exact ⟨none, 0, fun w => short_nil w, .inl ⟨rfl, rfl⟩⟩
    · cases h
      refine ⟨some a, min scr.length 40, fun w => short_some a _ vc VL.out.2 w, .inr ⟨a, vc, by simp [Nat.min_comm], fun e => Nat.lt_of_lt_of_le (h3 (fun e2 => e (by rw [e2]; rfl))) H1.out.size, ?_⟩⟩
      intro j u hu
      have hb : (a.add j).block = a.block := by unfold Addr.add; split <;> rfl
      have e : flatT scr = flatT (scr.take 40) ++ flatT (scr.drop 40) := by simp only [flatT]; rw [← List.flatMap_append, List.take_append_drop]
      have hu2 : (flatT scr)[j]? = some u := by rw [e, List.getElem?_append_left (List.getElem?_eq_some_iff.1 hu).1]; exact hu
      rw [H1.out.cell (by rw [hb]; exact h3 (flatT_ne hu2))]
      exact h4 _ _ hu2
  have hf : (scr.take 40).length ≤ 1000 := by simp; omega
  generalize scr.take 40 = sc at *
  have SH := Lib.hid hsh
  have SS := Lib.hid hss
  have HF := Lib.hid hf
  clear hsh hss hf b1 S0 VL
  obtain ⟨g, cap, w2, hr, m1, m2, m3, m4, m5, m6⟩ := append_mine w1 _ sc SS.out HF.out
  go_wp2_with fail
  refine (SH.out _).mono ?_
  rintro e w' ⟨rfl, rfl⟩
  go_wp2_with (at_builtin; refine wpList_append_run rfl _ _ 22 rfl _ _ _ rfl rfl hr ?_)
  have H2 := Lib.hid (bthen' H1.out m6)
  have SM := Lib.hid m1
  have MM := Lib.hid (And.intro m2 (And.intro m3 (And.intro (show w0.heap.size ≤ g from Nat.le_trans H1.out.size m4) m5)))
  have SS2 : Hid (SRA w2 (.slice so sl vc) sc) := Lib.hid (SS.out.touch (Touch.of_below (s := fun _ => False) m6) (fun _ _ => id))
  clear hr m1 m2 m3 m4 m5 m6 H1 SS
  go_wp2_with fail
  refine (lw_sra 2 _ sc w2 SM.out HF.out).mono ?_
  rintro e w3 ⟨la, rfl, a1, a2⟩
  have LA := Lib.hid (a1.mono (A' := fun i => i < w0.heap.size ∨ i = g) (by
    rintro i hi (h | rfl)
    · exact Nat.lt_of_lt_of_le h H2.out.size
    · exact MM.out.2.2.2))
  have H3 := Lib.hid (bthen' H2.out a2)
  have MM3 : Hid (MB w3 g cap) := Lib.hid (MM.out.1.touch (Touch.of_below (s := fun _ => False) a2) id)
  have G3 : Hid (g < w3.heap.size) := Lib.hid (Nat.lt_of_lt_of_le MM.out.2.2.2 a2.size)
  have SS3 : Hid (SRA w3 (.slice so sl vc) sc) := Lib.hid (SS2.out.touch (Touch.of_below (s := fun _ => False) a2) (fun _ _ => id))
  have MG := Lib.hid (And.intro MM.out.2.1 MM.out.2.2.1)
  clear a1 a2 SM MM SS2 H2
  go_wp2_with fail
  refine (SH.out _).mono ?_
  rintro e w' ⟨rfl, rfl⟩
  go_wp2_with fail
  refine (lp_new _ la 2 0 sc [] 2 _ sc w3 LA.out SS3.out HF.out (by rintro i (h | rfl); exact Nat.lt_of_lt_of_le h H3.out.size; exact G3.out)).mono ?_
  rintro e w4 ⟨lb, rfl, a1, a2⟩
  have L4 := Lib.hid a1
  have H4 := Lib.hid (bthen' H3.out a2)
  have M4 : Hid (MB w4 g cap) := Lib.hid (MM3.out.touch (Touch.of_below (s := fun _ => False) a2) id)
  have G4 : Hid (g < w4.heap.size) := Lib.hid (Nat.lt_of_lt_of_le G3.out a2.size)
  clear a1 a2 LA H3 MM3 G3 SS3 SH
  have hsl : sc.length ≤ 1000 := HF.out
  generalize hsn : sc.length = sn at *
  have SN := Lib.hid hsn
  clear hsn
  go_wp2_with fail
  go_loopw [32] (fun i wr => ∃ k : Nat, i = .int .i64 k ∧ k ≤ sn ∧ Hid (LP wr (fun i => i < w0.heap.size ∨ i = g) la 2 0 sc [] lb 2 0 sc []) ∧ Hid (Below w0.heap.size w0 wr) ∧ Hid (MB wr g cap) ∧ Hid (g < wr.heap.size)) (fun i _ => sn - (intOf i).toNat)
  case atStart => exact ⟨0, rfl, Nat.zero_le _, L4, H4, M4, G4⟩
  case round =>
    clear L4 H4 M4 G4
    obtain ⟨k, rfl, hk, L, H, M, G⟩ := hrel
    by_cases hks : k < sn
    · have y0 : (0 : Int) ≤ (k : Int) := by omega
      obtain ⟨x0, x1, x2, q0, q1, q2, f0, f1, f2⟩ := M.out.at k (by have := MG.out.1; omega)
      have r3 := touch3 wr g (k * 3) (k * 3 + 1) (k * 3 + 2) (.bool true) (.int .i64 0) (.int .i64 0)
      have L1 := Lib.hid (L.out.touch r3 (fun i h1 h2 e => h1 (.inr e)))
      have H1 := Lib.hid (H.out.trans (r3.below H.out.size (fun i e => by rw [e]; exact MG.out.2)))
      have M1 := Lib.hid (((M.out.put (k * 3) (.bool true)).put (k * 3 + 1) (.int .i64 0)).put (k * 3 + 2) (.int .i64 0))
      have G1 : Hid (g < (((wr.setCell ⟨g, k * 3, none⟩ (.bool true)).setCell ⟨g, k * 3 + 1, none⟩ (.int .i64 0)).setCell ⟨g, k * 3 + 2, none⟩ (.int .i64 0)).heap.size) := Lib.hid (Nat.lt_of_lt_of_le G.out r3.size)
      have ed : decide ((k : Int) < (sn : Int)) = true := by simp; omega
      have y1 : (k : Int) < (sn : Int) := by omega
      clear L H M G r3
      by_cases hko : k < ol
      · have y2 : (k : Int) < (ol : Int) := by omega
        have eo : decide (k < ol) = true := by simpa using hko
        go_upto_region 9 with fail
        clear q0 q1 q2 f0 f1 f2
        generalize hw5 : ((wr.setCell ⟨g, k * 3, none⟩ (.bool true)).setCell ⟨g, k * 3 + 1, none⟩ (.int .i64 0)).setCell ⟨g, k * 3 + 2, none⟩ (.int .i64 0) = w5 at *
        obtain ⟨a, rfl, hab, o0, o1, o2⟩ := O.out k hko
        have HC : ∀ j, w5.cell? (a.add j) = w0.cell? (a.add j) := fun j => H1.out.cell (by have hb : (a.add j).block = a.block := by unfold Addr.add; split <;> rfl
                                                                                           rw [hb]; exact hab)
        rw [← HC] at o0 o1 o2
        have o1' : w5.cell? ⟨(a.add (k * 3)).block, (a.add (k * 3)).off + 1, none⟩ = some (.int .i64 (fo k).cop) := by rw [← add_field _ _ 1 (by omega)]; exact o1
        have o2' : w5.cell? ⟨(a.add (k * 3)).block, (a.add (k * 3)).off + 2, none⟩ = some (.int .i64 (fo k).del) := by rw [← add_field _ _ 2 (by omega)]; exact o2
        clear o1 o2
        obtain ⟨x0, x1, x2, q0, q1, q2, f0, f1, f2⟩ := M1.out.at k (by have := MG.out.1; omega)
        have r3 := touch3 w5 g (k * 3) (k * 3 + 1) (k * 3 + 2) (.bool (fo k).lost) (.int .i64 (fo k).cop) (.int .i64 (fo k).del)
        have L2 := Lib.hid (L1.out.touch r3 (fun i h1 h2 e => h1 (.inr e)))
        have H2 := Lib.hid (H1.out.trans (r3.below H1.out.size (fun i e => by rw [e]; exact MG.out.2)))
        have M2 := Lib.hid (((M1.out.put (k * 3) (.bool (fo k).lost)).put (k * 3 + 1) (.int .i64 (fo k).cop)).put (k * 3 + 2) (.int .i64 (fo k).del))
        have G2 : Hid (g < (((w5.setCell ⟨g, k * 3, none⟩ (.bool (fo k).lost)).setCell ⟨g, k * 3 + 1, none⟩ (.int .i64 (fo k).cop)).setCell ⟨g, k * 3 + 2, none⟩ (.int .i64 (fo k).del)).heap.size) := Lib.hid (Nat.lt_of_lt_of_le G1.out r3.size)
        clear HC hab L1 H1 M1 G1 r3 hw5
        go_wp2_with fail
        go_roundw
        case rel => exact ⟨k + 1, rfl, hks, L2, H2, M2, G2⟩
        case measure => simp [intOf]; omega
      · have eo : decide (k < ol) = false := by simpa using hko
        go_wp2_with fail
        go_roundw
        case rel => exact ⟨k + 1, rfl, hks, L1, H1, M1, G1⟩
        case measure => simp [intOf]; omega
    · obtain rfl : k = sn := by omega
      have ed : decide ((k : Int) < (k : Int)) = false := by simp
      have L0 := Lib.hid (L.out.mono (A' := fun i => i < w0.heap.size) (fun i _ h => .inl h))
      clear M G MG L
      go_wp2_with fail
      go_loopw [12] (fun i wr => ∃ j : Nat, i = .int .i64 j ∧ j ≤ 20 ∧ Hid (LP wr (fun i => i < w0.heap.size) la 2 j sc (mO sc z j) lb 2 j sc (mO sc z j)) ∧ Hid (Below w0.heap.size w0 wr)) (fun i _ => 20 - (intOf i).toNat)
      case atStart => exact ⟨0, rfl, by omega, L0, H⟩
      case round =>
        clear L0 H
        rename_i wo _
        obtain ⟨j, rfl, hj, L, H⟩ := hrel
        by_cases hc : j < len ∧ j < 20
        · obtain ⟨h1, h2⟩ := hc
          obtain ⟨ad, rfl, hab, t0⟩ := V.out j h1
          have hb : (ad.add j).block = ad.block := by unfold Addr.add; split <;> rfl
          have T0 := Aside0.mk (And.intro (show (ad.add j).block < w0.heap.size by rw [hb]; exact hab) t0)
          have ed : decide (j < len) = true := by simpa using h1
          have ed2 : decide ((j : Int) < 20) = true := by simp; omega
          have z0 := Aside0.mk (show (0 : Int) ≤ (j : Int) by omega)
          have z1 := Aside0.mk (show (j : Int) < 20 by omega)
          have z2 := Aside0.mk (show (j : Int) < (len : Int) by omega)
          have ml := Aside0.mk (Nat.lt_of_le_of_lt (mO_length sc z j) (show 9 * j < 900000 by omega))
          have L3 := Aside0.mk L.out
          have H3 := Aside0.mk H.out
          clear hab hb t0 L H h1 h2
          go_wp2_with fail
          refine start_ (n := 11) (S := fun w' => True) (ds := []) #[false, false, false, false, false, false, false, false, false, false, false] (by kernel_rfl) rfl rfl trivial (fun hHeld => ?_)
          refine with_tabW lnOwn.tab14 lnOwn.bits14 (fun HT_ HW_ => ?_)
          have L : Aside0 (LP wr.drew (fun i => i < w0.heap.size) la 2 j sc (mO sc z j) lb 2 j sc (mO sc z j)) := ⟨L3.out.quiet (bdrew (Below.refl _ wr))⟩
          have H : Aside0 (Below w0.heap.size w0 wr.drew) := ⟨bdrew H3.out⟩
          generalize wr.drew = w1' at *
          refine inv_at [0, 1, 2, 3, 4, 5, 6, 7, 8, 9, 10] (fun a0_ b a w' => ∃ (gb : Nat) (m7_ : Value), a = putSel a0_ b [(0, 61, .pointer (some ⟨la, 0, none⟩)), (1, 62, .slice (some ad) len c), (2, 63, .int .i64 (j : Int)), (3, 64, .pointer (some (ad.add j))), (4, 65, .int .i64 (z j)), (5, 66, .int .i64 (j : Int)), (6, 67, .int .u8 (j : Int)), (7, 68, m7_), (8, 69, .string (txB j)), (9, 70, .agg #[.int .i64 0, .int .i64 1, .string (txB j)]), (10, 71, .tuple #[])] ∧ (b 10 = false → LP w' (fun i => i < w0.heap.size) la 2 j sc (mO sc z j) lb 2 j sc (mO sc z j)) ∧ (Below w0.heap.size w0 w') ∧ (b 7 = true → b 8 = false → w'.cell? ⟨gb, 0, none⟩ = some (.int .u8 (j : Int))) ∧ (b 10 = true → LP w' (fun i => i < w0.heap.size) la 2 (j + 1) sc (mO sc z (j + 1)) lb 2 j sc (mO sc z j)) ∧ (b 7 = true → (m7_ : Value) = .slice (some ⟨gb, 0, none⟩) 1 1)) HT_.out HW_.out (by kernel_rfl) (by kernel_rfl) ?_ ?_ ?_
          · exact ⟨0, .bool false, by simp only [putSel, Bool.false_eq_true, if_false], fun _ => L.out, H.out, fun h_ => absurd h_ (by decide), fun h_ => absurd h_ (by decide), fun h_ => absurd h_ (by decide)⟩
          · skip
            clear H L
            refine steps_cons ?_ ?_
            · rintro b a w' ⟨gb, m7_, ha, Q_L, Q_H, Q_Z, Q_L9, Q_X7_⟩ hb_ hon hoff
              refine ⟨_, rfl, fun K hK => ?_⟩
              have e9 : a.tmps[9]? = some (.pointer (some ⟨la, 0, none⟩)) := by rw [ha]; exact (putSel_off rfl).trans rfl
              replace ha := Aside0.mk ha
              have L := Aside0.mk (Q_L (hoff 10 (by kernel_rfl)))
              have H := Aside0.mk Q_H
              refine value_ (w1 := w') (v := .pointer (some ⟨la, 0, none⟩)) (by rfl) rfl ?_ ?_
              · go_simp
                (try simp only [i64_w])
                try rfl
              refine hK.out _ _ ⟨gb, m7_, (by rw [ha.out]; exact putSel_upk 0 hb_ rfl rfl rfl), Q_L, Q_H, Q_Z, fun h0_ => absurd ((hoff 10 (by kernel_rfl)).symm.trans h0_) (by decide), Q_X7_⟩
            refine steps_cons ?_ ?_
            · rintro b a w' ⟨gb, m7_, ha, Q_L, Q_H, Q_Z, Q_L9, Q_X7_⟩ hb_ hon hoff
              refine ⟨_, rfl, fun K hK => ?_⟩
              have e2 : a.tmps[2]? = some (.slice (some ad) len c) := by rw [ha]; exact (putSel_off rfl).trans rfl
              replace ha := Aside0.mk ha
              have L := Aside0.mk (Q_L (hoff 10 (by kernel_rfl)))
              have H := Aside0.mk Q_H
              refine value_ (w1 := w') (v := .slice (some ad) len c) (by rfl) rfl ?_ ?_
              · go_simp
                (try simp only [i64_w])
                try rfl
              refine hK.out _ _ ⟨gb, m7_, (by rw [ha.out]; exact putSel_upk 1 hb_ rfl rfl rfl), Q_L, Q_H, Q_Z, fun h0_ => absurd ((hoff 10 (by kernel_rfl)).symm.trans h0_) (by decide), Q_X7_⟩
            refine steps_cons ?_ ?_
            · rintro b a w' ⟨gb, m7_, ha, Q_L, Q_H, Q_Z, Q_L9, Q_X7_⟩ hb_ hon hoff
              refine ⟨_, rfl, fun K hK => ?_⟩
              have e12 : a.tmps[12]? = some (.int .i64 (j : Int)) := by rw [ha]; exact (putSel_off rfl).trans rfl
              replace ha := Aside0.mk ha
              have L := Aside0.mk (Q_L (hoff 10 (by kernel_rfl)))
              have H := Aside0.mk Q_H
              refine value_ (w1 := w') (v := .int .i64 (j : Int)) (by rfl) rfl ?_ ?_
              · go_simp
                (try simp only [i64_w])
                try rfl
              refine hK.out _ _ ⟨gb, m7_, (by rw [ha.out]; exact putSel_upk 2 hb_ rfl rfl rfl), Q_L, Q_H, Q_Z, fun h0_ => absurd ((hoff 10 (by kernel_rfl)).symm.trans h0_) (by decide), Q_X7_⟩
            refine steps_cons ?_ ?_
            · rintro b a w' ⟨gb, m7_, ha, Q_L, Q_H, Q_Z, Q_L9, Q_X7_⟩ hb_ hon hoff
              refine ⟨_, rfl, fun K hK => ?_⟩
              have e62 : a.tmps[62]? = some (.slice (some ad) len c) := by rw [ha]; exact putSel_on (e := (1, 62, .slice (some ad) len c)) 1 rfl rfl (hon 1 (by kernel_rfl)) rfl
              have e63 : a.tmps[63]? = some (.int .i64 (j : Int)) := by rw [ha]; exact putSel_on (e := (2, 63, .int .i64 (j : Int))) 2 rfl rfl (hon 2 (by kernel_rfl)) rfl
              replace ha := Aside0.mk ha
              have L := Aside0.mk (Q_L (hoff 10 (by kernel_rfl)))
              have H := Aside0.mk Q_H
              have y0 := z0.out
              have y1 := z2.out
              refine value_ (w1 := w') (v := .pointer (some (ad.add j))) (by rfl) rfl ?_ ?_
              · go_simp
                (try simp only [i64_w])
                try rfl
              refine hK.out _ _ ⟨gb, m7_, (by rw [ha.out]; exact putSel_upk 3 hb_ rfl rfl rfl), Q_L, Q_H, Q_Z, fun h0_ => absurd ((hoff 10 (by kernel_rfl)).symm.trans h0_) (by decide), Q_X7_⟩
            refine steps_cons ?_ ?_
            · rintro b a w' ⟨gb, m7_, ha, Q_L, Q_H, Q_Z, Q_L9, Q_X7_⟩ hb_ hon hoff
              refine ⟨_, rfl, fun K hK => ?_⟩
              have e64 : a.tmps[64]? = some (.pointer (some (ad.add j))) := by rw [ha]; exact putSel_on (e := (3, 64, .pointer (some (ad.add j)))) 3 rfl rfl (hon 3 (by kernel_rfl)) rfl
              replace ha := Aside0.mk ha
              have L := Aside0.mk (Q_L (hoff 10 (by kernel_rfl)))
              have H := Aside0.mk Q_H
              have c0 : w'.cell? (ad.add j) = some (.int .i64 (z j)) := (H.out.cell T0.out.1).trans T0.out.2
              refine value_ (w1 := w') (v := .int .i64 (z j)) (by rfl) rfl ?_ ?_
              · go_simp
                (try simp only [i64_w])
                try rfl
              refine hK.out _ _ ⟨gb, m7_, (by rw [ha.out]; exact putSel_upk 4 hb_ rfl rfl rfl), Q_L, Q_H, Q_Z, fun h0_ => absurd ((hoff 10 (by kernel_rfl)).symm.trans h0_) (by decide), Q_X7_⟩
            refine steps_cons ?_ ?_
            · rintro b a w' ⟨gb, m7_, ha, Q_L, Q_H, Q_Z, Q_L9, Q_X7_⟩ hb_ hon hoff
              refine ⟨_, rfl, fun K hK => ?_⟩
              have e12 : a.tmps[12]? = some (.int .i64 (j : Int)) := by rw [ha]; exact (putSel_off rfl).trans rfl
              replace ha := Aside0.mk ha
              have L := Aside0.mk (Q_L (hoff 10 (by kernel_rfl)))
              have H := Aside0.mk Q_H
              refine value_ (w1 := w') (v := .int .i64 (j : Int)) (by rfl) rfl ?_ ?_
              · go_simp
                (try simp only [i64_w])
                try rfl
              refine hK.out _ _ ⟨gb, m7_, (by rw [ha.out]; exact putSel_upk 5 hb_ rfl rfl rfl), Q_L, Q_H, fun h0_ _ => absurd ((hoff 7 (by kernel_rfl)).symm.trans h0_) (by decide), fun h0_ => absurd ((hoff 10 (by kernel_rfl)).symm.trans h0_) (by decide), fun h0_ => absurd ((hoff 7 (by kernel_rfl)).symm.trans h0_) (by decide)⟩
            refine steps_cons ?_ ?_
            · rintro b a w' ⟨gb, m7_, ha, Q_L, Q_H, Q_Z, Q_L9, Q_X7_⟩ hb_ hon hoff
              refine ⟨_, rfl, fun K hK => ?_⟩
              have e66 : a.tmps[66]? = some (.int .i64 (j : Int)) := by rw [ha]; exact putSel_on (e := (5, 66, .int .i64 (j : Int))) 5 rfl rfl (hon 5 (by kernel_rfl)) rfl
              replace ha := Aside0.mk ha
              have L := Aside0.mk (Q_L (hoff 10 (by kernel_rfl)))
              have H := Aside0.mk Q_H
              have y0 : IntKind.u8.wrap (j : Int) = (j : Int) := IntWalk.u8_in _ (by have := z1.out; omega)
              refine value_ (w1 := w') (v := .int .u8 (j : Int)) (by rfl) rfl ?_ ?_
              · go_simp
                (try simp only [i64_w])
                try rfl
              refine hK.out _ _ ⟨gb, m7_, (by rw [ha.out]; exact putSel_upk 6 hb_ rfl rfl rfl), Q_L, Q_H, fun h0_ _ => absurd ((hoff 7 (by kernel_rfl)).symm.trans h0_) (by decide), fun h0_ => absurd ((hoff 10 (by kernel_rfl)).symm.trans h0_) (by decide), fun h0_ => absurd ((hoff 7 (by kernel_rfl)).symm.trans h0_) (by decide)⟩
            refine steps_cons ?_ ?_
            · rintro b a w' ⟨gb, m7_, ha, Q_L, Q_H, Q_Z, Q_L9, Q_X7_⟩ hb_ hon hoff
              refine ⟨_, rfl, fun K hK => ?_⟩
              have e67 : a.tmps[67]? = some (.int .u8 (j : Int)) := by rw [ha]; exact putSel_on (e := (6, 67, .int .u8 (j : Int))) 6 rfl rfl (hon 6 (by kernel_rfl)) rfl
              replace ha := Aside0.mk ha
              have L := Aside0.mk (Q_L (hoff 10 (by kernel_rfl)))
              have H := Aside0.mk Q_H
              refine value_ (w1 := w'.alloc (.cells #[.int .u8 (j : Int)] 5)) (v := .slice (some ⟨w'.heap.size, 0, none⟩) 1 1) (by rfl) rfl ?_ ?_
              · go_simp
              refine hK.out _ _ ⟨w'.heap.size, (.slice (some ⟨w'.heap.size, 0, none⟩) 1 1), (by rw [ha.out]; exact putSel_upk 7 hb_ rfl rfl rfl), fun _ => L.out.quiet (balloc (Below.refl _ w') _), balloc H.out _, fun _ _ => (Blk.new w' _ _ rfl).cell 0, fun h0_ => absurd ((hoff 10 (by kernel_rfl)).symm.trans h0_) (by decide), fun _ => rfl⟩
            refine steps_cons ?_ ?_
            · rintro b a w' ⟨gb, m7_, ha, Q_L, Q_H, Q_Z, Q_L9, Q_X7_⟩ hb_ hon hoff
              refine ⟨_, rfl, fun K hK => ?_⟩
              have e68 : a.tmps[68]? = some (m7_) := by rw [ha]; exact putSel_on (e := (7, 68, m7_)) 7 rfl rfl (hon 7 (by kernel_rfl)) rfl
              rw [Q_X7_ (hon 7 (by kernel_rfl))] at e68
              replace ha := Aside0.mk ha
              have L := Aside0.mk (Q_L (hoff 10 (by kernel_rfl)))
              have H := Aside0.mk Q_H
              have Z := Aside0.mk (Q_Z (hon 7 (by kernel_rfl)) hb_)
              have c0 := conv_one j gb w' (by have := z1.out; omega) Z.out
              refine value_ (w1 := w') (v := .string (txB j)) (by rfl) rfl ?_ ?_
              · go_simp
                (try simp only [i64_w])
                try rfl
              refine hK.out _ _ ⟨gb, m7_, (by rw [ha.out]; exact putSel_upk 8 hb_ rfl rfl rfl), Q_L, Q_H, fun _ h1_ => absurd ((up_self b 8).symm.trans h1_) (by decide), fun h0_ => absurd ((hoff 10 (by kernel_rfl)).symm.trans h0_) (by decide), Q_X7_⟩
            refine steps_cons ?_ ?_
            · rintro b a w' ⟨gb, m7_, ha, Q_L, Q_H, Q_Z, Q_L9, Q_X7_⟩ hb_ hon hoff
              refine ⟨_, rfl, fun K hK => ?_⟩
              have e69 : a.tmps[69]? = some (.string (txB j)) := by rw [ha]; exact putSel_on (e := (8, 69, .string (txB j))) 8 rfl rfl (hon 8 (by kernel_rfl)) rfl
              replace ha := Aside0.mk ha
              have L := Aside0.mk (Q_L (hoff 10 (by kernel_rfl)))
              have H := Aside0.mk Q_H
              refine call_ 18 #[.string (txB j)] (by rfl) rfl ?_ ?_
              · go_simp
              refine (told_any _ w').mono ?_
              rintro e w2 ⟨rfl, a1⟩
              refine ⟨_, rfl, ?_⟩
              refine hK.out _ _ ⟨gb, m7_, (by rw [ha.out]; exact putSel_upk 9 hb_ rfl rfl rfl), fun _ => L.out.quiet a1, bthen' H.out a1, fun _ h1_ => absurd ((hon 8 (by kernel_rfl)).symm.trans h1_) (by decide), fun h0_ => absurd ((hoff 10 (by kernel_rfl)).symm.trans h0_) (by decide), Q_X7_⟩
            refine steps_cons ?_ ?_
            · rintro b a w' ⟨gb, m7_, ha, Q_L, Q_H, Q_Z, Q_L9, Q_X7_⟩ hb_ hon hoff
              refine ⟨_, rfl, fun K hK => ?_⟩
              have e61 : a.tmps[61]? = some (.pointer (some ⟨la, 0, none⟩)) := by rw [ha]; exact putSel_on (e := (0, 61, .pointer (some ⟨la, 0, none⟩))) 0 rfl rfl (hon 0 (by kernel_rfl)) rfl
              have e65 : a.tmps[65]? = some (.int .i64 (z j)) := by rw [ha]; exact putSel_on (e := (4, 65, .int .i64 (z j))) 4 rfl rfl (hon 4 (by kernel_rfl)) rfl
              have e70 : a.tmps[70]? = some (.agg #[.int .i64 0, .int .i64 1, .string (txB j)]) := by rw [ha]; exact putSel_on (e := (9, 70, .agg #[.int .i64 0, .int .i64 1, .string (txB j)])) 9 rfl rfl (hon 9 (by kernel_rfl)) rfl
              replace ha := Aside0.mk ha
              have L := Aside0.mk (Q_L hb_)
              have H := Aside0.mk Q_H
              refine call_ 15 #[.pointer (some ⟨la, 0, none⟩), .int .i64 (z j), .agg #[.int .i64 0, .int .i64 1, .string (txB j)]] (by rfl) rfl ?_ ?_
              · go_simp
              refine (lp_send (fun i => i < w0.heap.size) la 2 j sc (mO sc z j) lb 2 j sc (mO sc z j) (z j) 0 1 (txB j) w' L.out (by have := z1.out; omega) ml.out (by rw [SN.out]; exact HF.out) (fun i h => Nat.lt_of_lt_of_le h H.out.size)).mono ?_
              rintro e w2 ⟨rfl, a1, a2⟩
              refine ⟨_, rfl, ?_⟩
              refine hK.out _ _ ⟨gb, m7_, (by rw [ha.out]; exact putSel_upk 10 hb_ rfl rfl rfl), fun h0_ => absurd ((up_self b 10).symm.trans h0_) (by decide), H.out.trans (a2.below H.out.size (fun i h => Nat.le_of_not_lt h)), fun _ h1_ => absurd ((hon 8 (by kernel_rfl)).symm.trans h1_) (by decide), fun _ => a1, Q_X7_⟩
            exact steps_nil
          · rintro b a w' hall ⟨gb, m7_, ha, Q_L, Q_H, Q_Z, Q_L9, Q_X7_⟩
            clear H L
            have hb0_ := hall 0 (by kernel_rfl)
            have hb1_ := hall 1 (by kernel_rfl)
            have hb2_ := hall 2 (by kernel_rfl)
            have hb3_ := hall 3 (by kernel_rfl)
            have hb4_ := hall 4 (by kernel_rfl)
            have hb5_ := hall 5 (by kernel_rfl)
            have hb6_ := hall 6 (by kernel_rfl)
            have hb7_ := hall 7 (by kernel_rfl)
            have hb8_ := hall 8 (by kernel_rfl)
            have hb9_ := hall 9 (by kernel_rfl)
            have hb10_ := hall 10 (by kernel_rfl)
            subst ha
            obtain rfl := Q_X7_ hb7_
            simp only [putSel, hb0_, hb1_, hb2_, hb3_, hb4_, hb5_, hb6_, hb7_, hb8_, hb9_, hb10_, if_true, Act.put, List.setIfInBounds_toArray, List.set_cons_zero, List.set_cons_succ]
            clear Q_L
            have H := Aside0.mk Q_H
            clear Q_H
            clear Q_Z
            have L9 := Aside0.mk (Q_L9 hb10_)
            clear Q_L9
            clear hall hb0_ hb1_ hb2_ hb3_ hb4_ hb5_ hb6_ hb7_ hb8_ hb9_ hb10_
            clear L3 H3
            have L3 := Aside0.mk L9.out.swap
            have H3 := Aside0.mk H.out
            clear L9 H
            generalize w' = wr at *
            go_wp2_with fail
            refine start_ (n := 11) (S := fun w' => True) (ds := []) #[false, false, false, false, false, false, false, false, false, false, false] (by kernel_rfl) rfl rfl trivial (fun hHeld => ?_)
            refine with_tabW lnOwn.tab15 lnOwn.bits15 (fun HT_ HW_ => ?_)
            have L : Aside0 (LP wr.drew (fun i => i < w0.heap.size) lb 2 j sc (mO sc z j) la 2 (j + 1) sc (mO sc z (j + 1))) := ⟨L3.out.quiet (bdrew (Below.refl _ wr))⟩
            have H : Aside0 (Below w0.heap.size w0 wr.drew) := ⟨bdrew H3.out⟩
            generalize wr.drew = w1' at *
            refine inv_at [0, 1, 2, 3, 4, 5, 6, 7, 8, 9, 10] (fun a0_ b a w' => ∃ (gb : Nat) (m7_ : Value), a = putSel a0_ b [(0, 72, .pointer (some ⟨lb, 0, none⟩)), (1, 73, .slice (some ad) len c), (2, 74, .int .i64 (j : Int)), (3, 75, .pointer (some (ad.add j))), (4, 76, .int .i64 (z j)), (5, 77, .int .i64 (j : Int)), (6, 78, .int .u8 (j : Int)), (7, 79, m7_), (8, 80, .string (txB j)), (9, 81, .agg #[.int .i64 0, .int .i64 1, .string (txB j)]), (10, 82, .tuple #[])] ∧ (b 10 = false → LP w' (fun i => i < w0.heap.size) lb 2 j sc (mO sc z j) la 2 (j + 1) sc (mO sc z (j + 1))) ∧ (Below w0.heap.size w0 w') ∧ (b 7 = true → b 8 = false → w'.cell? ⟨gb, 0, none⟩ = some (.int .u8 (j : Int))) ∧ (b 10 = true → LP w' (fun i => i < w0.heap.size) lb 2 (j + 1) sc (mO sc z (j + 1)) la 2 (j + 1) sc (mO sc z (j + 1))) ∧ (b 7 = true → (m7_ : Value) = .slice (some ⟨gb, 0, none⟩) 1 1)) HT_.out HW_.out (by kernel_rfl) (by kernel_rfl) ?_ ?_ ?_
            · exact ⟨0, .bool false, by simp only [putSel, Bool.false_eq_true, if_false], fun _ => L.out, H.out, fun h_ => absurd h_ (by decide), fun h_ => absurd h_ (by decide), fun h_ => absurd h_ (by decide)⟩
            · skip
              clear H L
              refine steps_cons ?_ ?_
              · rintro b a w' ⟨gb, m7_, ha, Q_L, Q_H, Q_Z, Q_L9, Q_X7_⟩ hb_ hon hoff
                refine ⟨_, rfl, fun K hK => ?_⟩
                have e10 : a.tmps[10]? = some (.pointer (some ⟨lb, 0, none⟩)) := by rw [ha]; exact (putSel_off rfl).trans rfl
                replace ha := Aside0.mk ha
                have L := Aside0.mk (Q_L (hoff 10 (by kernel_rfl)))
                have H := Aside0.mk Q_H
                refine value_ (w1 := w') (v := .pointer (some ⟨lb, 0, none⟩)) (by rfl) rfl ?_ ?_
                · go_simp
                  (try simp only [i64_w])
                  try rfl
                refine hK.out _ _ ⟨gb, m7_, (by rw [ha.out]; exact putSel_upk 0 hb_ rfl rfl rfl), Q_L, Q_H, Q_Z, fun h0_ => absurd ((hoff 10 (by kernel_rfl)).symm.trans h0_) (by decide), Q_X7_⟩
              refine steps_cons ?_ ?_
              · rintro b a w' ⟨gb, m7_, ha, Q_L, Q_H, Q_Z, Q_L9, Q_X7_⟩ hb_ hon hoff
                refine ⟨_, rfl, fun K hK => ?_⟩
                have e2 : a.tmps[2]? = some (.slice (some ad) len c) := by rw [ha]; exact (putSel_off rfl).trans rfl
                replace ha := Aside0.mk ha
                have L := Aside0.mk (Q_L (hoff 10 (by kernel_rfl)))
                have H := Aside0.mk Q_H
                refine value_ (w1 := w') (v := .slice (some ad) len c) (by rfl) rfl ?_ ?_
                · go_simp
                  (try simp only [i64_w])
                  try rfl
                refine hK.out _ _ ⟨gb, m7_, (by rw [ha.out]; exact putSel_upk 1 hb_ rfl rfl rfl), Q_L, Q_H, Q_Z, fun h0_ => absurd ((hoff 10 (by kernel_rfl)).symm.trans h0_) (by decide), Q_X7_⟩
              refine steps_cons ?_ ?_
              · rintro b a w' ⟨gb, m7_, ha, Q_L, Q_H, Q_Z, Q_L9, Q_X7_⟩ hb_ hon hoff
                refine ⟨_, rfl, fun K hK => ?_⟩
                have e12 : a.tmps[12]? = some (.int .i64 (j : Int)) := by rw [ha]; exact (putSel_off rfl).trans rfl
                replace ha := Aside0.mk ha
                have L := Aside0.mk (Q_L (hoff 10 (by kernel_rfl)))
                have H := Aside0.mk Q_H
                refine value_ (w1 := w') (v := .int .i64 (j : Int)) (by rfl) rfl ?_ ?_
                · go_simp
                  (try simp only [i64_w])
                  try rfl
                refine hK.out _ _ ⟨gb, m7_, (by rw [ha.out]; exact putSel_upk 2 hb_ rfl rfl rfl), Q_L, Q_H, Q_Z, fun h0_ => absurd ((hoff 10 (by kernel_rfl)).symm.trans h0_) (by decide), Q_X7_⟩
              refine steps_cons ?_ ?_
              · rintro b a w' ⟨gb, m7_, ha, Q_L, Q_H, Q_Z, Q_L9, Q_X7_⟩ hb_ hon hoff
                refine ⟨_, rfl, fun K hK => ?_⟩
                have e73 : a.tmps[73]? = some (.slice (some ad) len c) := by rw [ha]; exact putSel_on (e := (1, 73, .slice (some ad) len c)) 1 rfl rfl (hon 1 (by kernel_rfl)) rfl
                have e74 : a.tmps[74]? = some (.int .i64 (j : Int)) := by rw [ha]; exact putSel_on (e := (2, 74, .int .i64 (j : Int))) 2 rfl rfl (hon 2 (by kernel_rfl)) rfl
                replace ha := Aside0.mk ha
                have L := Aside0.mk (Q_L (hoff 10 (by kernel_rfl)))
                have H := Aside0.mk Q_H
                have y0 := z0.out
                have y1 := z2.out
                refine value_ (w1 := w') (v := .pointer (some (ad.add j))) (by rfl) rfl ?_ ?_
                · go_simp
                  (try simp only [i64_w])
                  try rfl
                refine hK.out _ _ ⟨gb, m7_, (by rw [ha.out]; exact putSel_upk 3 hb_ rfl rfl rfl), Q_L, Q_H, Q_Z, fun h0_ => absurd ((hoff 10 (by kernel_rfl)).symm.trans h0_) (by decide), Q_X7_⟩
              refine steps_cons ?_ ?_
              · rintro b a w' ⟨gb, m7_, ha, Q_L, Q_H, Q_Z, Q_L9, Q_X7_⟩ hb_ hon hoff
                refine ⟨_, rfl, fun K hK => ?_⟩
                have e75 : a.tmps[75]? = some (.pointer (some (ad.add j))) := by rw [ha]; exact putSel_on (e := (3, 75, .pointer (some (ad.add j)))) 3 rfl rfl (hon 3 (by kernel_rfl)) rfl
                replace ha := Aside0.mk ha
                have L := Aside0.mk (Q_L (hoff 10 (by kernel_rfl)))
                have H := Aside0.mk Q_H
                have c0 : w'.cell? (ad.add j) = some (.int .i64 (z j)) := (H.out.cell T0.out.1).trans T0.out.2
                refine value_ (w1 := w') (v := .int .i64 (z j)) (by rfl) rfl ?_ ?_
                · go_simp
                  (try simp only [i64_w])
                  try rfl
                refine hK.out _ _ ⟨gb, m7_, (by rw [ha.out]; exact putSel_upk 4 hb_ rfl rfl rfl), Q_L, Q_H, Q_Z, fun h0_ => absurd ((hoff 10 (by kernel_rfl)).symm.trans h0_) (by decide), Q_X7_⟩
              refine steps_cons ?_ ?_
              · rintro b a w' ⟨gb, m7_, ha, Q_L, Q_H, Q_Z, Q_L9, Q_X7_⟩ hb_ hon hoff
                refine ⟨_, rfl, fun K hK => ?_⟩
                have e12 : a.tmps[12]? = some (.int .i64 (j : Int)) := by rw [ha]; exact (putSel_off rfl).trans rfl
                replace ha := Aside0.mk ha
                have L := Aside0.mk (Q_L (hoff 10 (by kernel_rfl)))
                have H := Aside0.mk Q_H
                refine value_ (w1 := w') (v := .int .i64 (j : Int)) (by rfl) rfl ?_ ?_
                · go_simp
                  (try simp only [i64_w])
                  try rfl
                refine hK.out _ _ ⟨gb, m7_, (by rw [ha.out]; exact putSel_upk 5 hb_ rfl rfl rfl), Q_L, Q_H, fun h0_ _ => absurd ((hoff 7 (by kernel_rfl)).symm.trans h0_) (by decide), fun h0_ => absurd ((hoff 10 (by kernel_rfl)).symm.trans h0_) (by decide), fun h0_ => absurd ((hoff 7 (by kernel_rfl)).symm.trans h0_) (by decide)⟩
              refine steps_cons ?_ ?_
              · rintro b a w' ⟨gb, m7_, ha, Q_L, Q_H, Q_Z, Q_L9, Q_X7_⟩ hb_ hon hoff
                refine ⟨_, rfl, fun K hK => ?_⟩
                have e77 : a.tmps[77]? = some (.int .i64 (j : Int)) := by rw [ha]; exact putSel_on (e := (5, 77, .int .i64 (j : Int))) 5 rfl rfl (hon 5 (by kernel_rfl)) rfl
                replace ha := Aside0.mk ha
                have L := Aside0.mk (Q_L (hoff 10 (by kernel_rfl)))
                have H := Aside0.mk Q_H
                have y0 : IntKind.u8.wrap (j : Int) = (j : Int) := IntWalk.u8_in _ (by have := z1.out; omega)
                refine value_ (w1 := w') (v := .int .u8 (j : Int)) (by rfl) rfl ?_ ?_
                · go_simp
                  (try simp only [i64_w])
                  try rfl
                refine hK.out _ _ ⟨gb, m7_, (by rw [ha.out]; exact putSel_upk 6 hb_ rfl rfl rfl), Q_L, Q_H, fun h0_ _ => absurd ((hoff 7 (by kernel_rfl)).symm.trans h0_) (by decide), fun h0_ => absurd ((hoff 10 (by kernel_rfl)).symm.trans h0_) (by decide), fun h0_ => absurd ((hoff 7 (by kernel_rfl)).symm.trans h0_) (by decide)⟩
              refine steps_cons ?_ ?_
              · rintro b a w' ⟨gb, m7_, ha, Q_L, Q_H, Q_Z, Q_L9, Q_X7_⟩ hb_ hon hoff
                refine ⟨_, rfl, fun K hK => ?_⟩
                have e78 : a.tmps[78]? = some (.int .u8 (j : Int)) := by rw [ha]; exact putSel_on (e := (6, 78, .int .u8 (j : Int))) 6 rfl rfl (hon 6 (by kernel_rfl)) rfl
                replace ha := Aside0.mk ha
                have L := Aside0.mk (Q_L (hoff 10 (by kernel_rfl)))
                have H := Aside0.mk Q_H
                refine value_ (w1 := w'.alloc (.cells #[.int .u8 (j : Int)] 5)) (v := .slice (some ⟨w'.heap.size, 0, none⟩) 1 1) (by rfl) rfl ?_ ?_
                · go_simp
                refine hK.out _ _ ⟨w'.heap.size, (.slice (some ⟨w'.heap.size, 0, none⟩) 1 1), (by rw [ha.out]; exact putSel_upk 7 hb_ rfl rfl rfl), fun _ => L.out.quiet (balloc (Below.refl _ w') _), balloc H.out _, fun _ _ => (Blk.new w' _ _ rfl).cell 0, fun h0_ => absurd ((hoff 10 (by kernel_rfl)).symm.trans h0_) (by decide), fun _ => rfl⟩
              refine steps_cons ?_ ?_
              · rintro b a w' ⟨gb, m7_, ha, Q_L, Q_H, Q_Z, Q_L9, Q_X7_⟩ hb_ hon hoff
                refine ⟨_, rfl, fun K hK => ?_⟩
                have e79 : a.tmps[79]? = some (m7_) := by rw [ha]; exact putSel_on (e := (7, 79, m7_)) 7 rfl rfl (hon 7 (by kernel_rfl)) rfl
                rw [Q_X7_ (hon 7 (by kernel_rfl))] at e79
                replace ha := Aside0.mk ha
                have L := Aside0.mk (Q_L (hoff 10 (by kernel_rfl)))
                have H := Aside0.mk Q_H
                have Z := Aside0.mk (Q_Z (hon 7 (by kernel_rfl)) hb_)
                have c0 := conv_one j gb w' (by have := z1.out; omega) Z.out
                refine value_ (w1 := w') (v := .string (txB j)) (by rfl) rfl ?_ ?_
                · go_simp
                  (try simp only [i64_w])
                  try rfl
                refine hK.out _ _ ⟨gb, m7_, (by rw [ha.out]; exact putSel_upk 8 hb_ rfl rfl rfl), Q_L, Q_H, fun _ h1_ => absurd ((up_self b 8).symm.trans h1_) (by decide), fun h0_ => absurd ((hoff 10 (by kernel_rfl)).symm.trans h0_) (by decide), Q_X7_⟩
              refine steps_cons ?_ ?_
              · rintro b a w' ⟨gb, m7_, ha, Q_L, Q_H, Q_Z, Q_L9, Q_X7_⟩ hb_ hon hoff
                refine ⟨_, rfl, fun K hK => ?_⟩
                have e80 : a.tmps[80]? = some (.string (txB j)) := by rw [ha]; exact putSel_on (e := (8, 80, .string (txB j))) 8 rfl rfl (hon 8 (by kernel_rfl)) rfl
                replace ha := Aside0.mk ha
                have L := Aside0.mk (Q_L (hoff 10 (by kernel_rfl)))
                have H := Aside0.mk Q_H
                refine call_ 18 #[.string (txB j)] (by rfl) rfl ?_ ?_
                · go_simp
                refine (told_any _ w').mono ?_
                rintro e w2 ⟨rfl, a1⟩
                refine ⟨_, rfl, ?_⟩
                refine hK.out _ _ ⟨gb, m7_, (by rw [ha.out]; exact putSel_upk 9 hb_ rfl rfl rfl), fun _ => L.out.quiet a1, bthen' H.out a1, fun _ h1_ => absurd ((hon 8 (by kernel_rfl)).symm.trans h1_) (by decide), fun h0_ => absurd ((hoff 10 (by kernel_rfl)).symm.trans h0_) (by decide), Q_X7_⟩
              refine steps_cons ?_ ?_
              · rintro b a w' ⟨gb, m7_, ha, Q_L, Q_H, Q_Z, Q_L9, Q_X7_⟩ hb_ hon hoff
                refine ⟨_, rfl, fun K hK => ?_⟩
                have e72 : a.tmps[72]? = some (.pointer (some ⟨lb, 0, none⟩)) := by rw [ha]; exact putSel_on (e := (0, 72, .pointer (some ⟨lb, 0, none⟩))) 0 rfl rfl (hon 0 (by kernel_rfl)) rfl
                have e76 : a.tmps[76]? = some (.int .i64 (z j)) := by rw [ha]; exact putSel_on (e := (4, 76, .int .i64 (z j))) 4 rfl rfl (hon 4 (by kernel_rfl)) rfl
                have e81 : a.tmps[81]? = some (.agg #[.int .i64 0, .int .i64 1, .string (txB j)]) := by rw [ha]; exact putSel_on (e := (9, 81, .agg #[.int .i64 0, .int .i64 1, .string (txB j)])) 9 rfl rfl (hon 9 (by kernel_rfl)) rfl
                replace ha := Aside0.mk ha
                have L := Aside0.mk (Q_L hb_)
                have H := Aside0.mk Q_H
                refine call_ 15 #[.pointer (some ⟨lb, 0, none⟩), .int .i64 (z j), .agg #[.int .i64 0, .int .i64 1, .string (txB j)]] (by rfl) rfl ?_ ?_
                · go_simp
                refine (lp_send (fun i => i < w0.heap.size) lb 2 j sc (mO sc z j) la 2 (j + 1) sc (mO sc z (j + 1)) (z j) 0 1 (txB j) w' L.out (by have := z1.out; omega) ml.out (by rw [SN.out]; exact HF.out) (fun i h => Nat.lt_of_lt_of_le h H.out.size)).mono ?_
                rintro e w2 ⟨rfl, a1, a2⟩
                refine ⟨_, rfl, ?_⟩
                refine hK.out _ _ ⟨gb, m7_, (by rw [ha.out]; exact putSel_upk 10 hb_ rfl rfl rfl), fun h0_ => absurd ((up_self b 10).symm.trans h0_) (by decide), H.out.trans (a2.below H.out.size (fun i h => Nat.le_of_not_lt h)), fun _ h1_ => absurd ((hon 8 (by kernel_rfl)).symm.trans h1_) (by decide), fun _ => a1, Q_X7_⟩
              exact steps_nil
            · rintro b a w' hall ⟨gb, m7_, ha, Q_L, Q_H, Q_Z, Q_L9, Q_X7_⟩
              clear H L
              have hb0_ := hall 0 (by kernel_rfl)
              have hb1_ := hall 1 (by kernel_rfl)
              have hb2_ := hall 2 (by kernel_rfl)
              have hb3_ := hall 3 (by kernel_rfl)
              have hb4_ := hall 4 (by kernel_rfl)
              have hb5_ := hall 5 (by kernel_rfl)
              have hb6_ := hall 6 (by kernel_rfl)
              have hb7_ := hall 7 (by kernel_rfl)
              have hb8_ := hall 8 (by kernel_rfl)
              have hb9_ := hall 9 (by kernel_rfl)
              have hb10_ := hall 10 (by kernel_rfl)
              subst ha
              obtain rfl := Q_X7_ hb7_
              simp only [putSel, hb0_, hb1_, hb2_, hb3_, hb4_, hb5_, hb6_, hb7_, hb8_, hb9_, hb10_, if_true, Act.put, List.setIfInBounds_toArray, List.set_cons_zero, List.set_cons_succ]
              clear Q_L
              have H := Aside0.mk Q_H
              clear Q_H
              clear Q_Z
              have L9 := Aside0.mk (Q_L9 hb10_)
              clear Q_L9
              clear hall hb0_ hb1_ hb2_ hb3_ hb4_ hb5_ hb6_ hb7_ hb8_ hb9_ hb10_
              have L4 := Lib.hid L9.out.swap
              have H4 := Lib.hid H.out
              go_wp2_with fail
              go_roundw
              case rel => exact ⟨j + 1, rfl, by have := z1.out; omega, L4, H4⟩
              case measure => have := z1.out; simp [intOf]; omega
        · have hx : (¬ j < len) ∨ (j < len ∧ ¬ j < 20) := by omega
          have LX : Hid (∃ m, LP wr (fun i => i < w0.heap.size) la 2 j sc m lb 2 j sc m) := Lib.hid ⟨_, L.out⟩
          clear L hc
          have common : True := trivial
          rcases hx with q | ⟨q, q2⟩
          all_goals
            (try have ed : decide (j < len) = false := by simpa using q)
            (try have ed : decide (j < len) = true := by simpa using q)
            (try have ed2 : decide ((j : Int) < 20) = false := by simpa using q2)
            go_wp2_with fail
            go_loopw [13] (fun i wr => ∃ n : Nat, i = .int .i64 n ∧ n ≤ 200 ∧ Hid (∃ m, LP wr (fun i => i < w0.heap.size) la 2 j sc m lb 2 j sc m) ∧ Hid (Below w0.heap.size w0 wr)) (fun i _ => 200 - (intOf i).toNat)
            case atStart => exact ⟨0, rfl, by omega, LX, H⟩
            case round =>
              clear LX H
              rename_i wq _
              obtain ⟨n, rfl, hn, L, H⟩ := hrel
              by_cases hn2 : n < 200
              · have ed3 : decide ((n : Int) < 200) = true := by simp; omega
                obtain ⟨m, LL⟩ := L.out
                have L1 := Lib.hid LL
                clear L LL
                go_wp2_with fail
                refine (lp_any _ la 2 j sc m lb 2 j sc m _ L1.out).mono ?_
                rintro e w5 ⟨rfl, a1, a2⟩
                have L2 := Lib.hid ((a1.mono (A' := fun i => i < w0.heap.size ∨ i = w5.heap.size) (by rintro i hi (h | h); exact h; omega)).quiet (balloc (Below.refl _ w5) (.cells #[.int .i64 (nsrc m), .int .i64 (ndst m), .string (ntxt m)] 31))).swap
                have H2 := Lib.hid (balloc (H.out.trans (a2.below H.out.size (fun i h => Nat.le_of_not_lt h))) (.cells #[.int .i64 (nsrc m), .int .i64 (ndst m), .string (ntxt m)] 31))
                have C2 := Lib.hid (Blk.new w5 #[.int .i64 (nsrc m), .int .i64 (ndst m), .string (ntxt m)] 31 rfl)
                clear a1 a2 L1 H
                go_wp2_with fail
                generalize hw6 : w5.alloc (.cells #[.int .i64 (nsrc m), .int .i64 (ndst m), .string (ntxt m)] 31) = w6 at *
                obtain ⟨g5, hg5⟩ : ∃ g5, g5 = w5.heap.size := ⟨_, rfl⟩
                rw [← hg5] at C2 L2 ⊢
                clear hw6 hg5
                refine (lp_any _ lb 2 j sc m la 2 j sc (nrest m) _ L2.out).mono ?_
                rintro e w7 ⟨rfl, a1, a2⟩
                have C7 := (a2.blk C2.out (fun h => h (.inr rfl))).alloc (.cells #[.int .i64 (nsrc m), .int .i64 (ndst m), .string (ntxt m)] 31)
                have D7 := Blk.new w7 #[.int .i64 (nsrc m), .int .i64 (ndst m), .string (ntxt m)] 31 rfl
                have c0 : (w7.alloc (.cells #[.int .i64 (nsrc m), .int .i64 (ndst m), .string (ntxt m)] 31)).cell? ⟨g5, 0, none⟩ = some (.int .i64 (nsrc m)) := C7.cell 0
                have c1 : (w7.alloc (.cells #[.int .i64 (nsrc m), .int .i64 (ndst m), .string (ntxt m)] 31)).cell? ⟨g5, 1, none⟩ = some (.int .i64 (ndst m)) := C7.cell 1
                have c2 : (w7.alloc (.cells #[.int .i64 (nsrc m), .int .i64 (ndst m), .string (ntxt m)] 31)).cell? ⟨g5, 2, none⟩ = some (.string (ntxt m)) := C7.cell 2
                have d0 : (w7.alloc (.cells #[.int .i64 (nsrc m), .int .i64 (ndst m), .string (ntxt m)] 31)).cell? ⟨w7.heap.size, 0, none⟩ = some (.int .i64 (nsrc m)) := D7.cell 0
                have d1 : (w7.alloc (.cells #[.int .i64 (nsrc m), .int .i64 (ndst m), .string (ntxt m)] 31)).cell? ⟨w7.heap.size, 1, none⟩ = some (.int .i64 (ndst m)) := D7.cell 1
                have d2 : (w7.alloc (.cells #[.int .i64 (nsrc m), .int .i64 (ndst m), .string (ntxt m)] 31)).cell? ⟨w7.heap.size, 2, none⟩ = some (.string (ntxt m)) := D7.cell 2
                have L3 := Lib.hid ((a1.quiet (balloc (Below.refl _ w7) (.cells #[.int .i64 (nsrc m), .int .i64 (ndst m), .string (ntxt m)] 31))).swap.mono (A' := fun i => i < w0.heap.size) (fun i _ h => .inl h))
                have H3 := Lib.hid (balloc (H2.out.trans (a2.below H2.out.size (fun i h => Nat.le_of_not_lt (fun h2 => h (.inl h2))))) (.cells #[.int .i64 (nsrc m), .int .i64 (ndst m), .string (ntxt m)] 31))
                clear a1 a2 L2 H2 C2 C7 D7
                generalize m.isEmpty = em at *
                cases em with
                | true =>
                  go_wp2_with fail
                  go_ret
                  exact ⟨rfl, H3.out⟩
                | false =>
                  go_wp2_with fail
                  go_roundw
                  case rel => exact ⟨n + 1, rfl, by omega, Lib.hid ⟨_, L3.out⟩, H3⟩
                  case measure => simp [intOf]; omega
              · have ed3 : decide ((n : Int) < 200) = false := by simp; omega
                clear L
                go_wp2_with fail
                go_ret
                exact ⟨rfl, H.out⟩

end Go.Proofs.Ytemcbaacefjfnaa
