/- The walk of LinesNodes. -/
import Derived.Test.YtemcbaacefjfnaaLnNoP
import Derived.Test.YtemcbaacefjfnaaLnOwA
import Derived.Test.YtemcbaacefjfnaaLnAlone
import Derived.Test.YtemcbaacefjfnaaLnS
set_option linter.unusedVariables false
set_option linter.unusedSimpArgs false
namespace Go.Proofs.Ytemcbaacefjfnaa
open Go.RowKit Go.Proofs.YtemcbaacefjfnaaW.PrintWords Go.Proofs.YtemcbaacefjfnaaW.PrintLast

/-- the first forty troubles of a script -/
theorem short_any {w1 : World} {vo : Option Addr} {vl vc : Nat} {scr : List Tb} (hS : SRA w1 (.slice vo vl vc) scr) (hvc : vl ≤ vc) :
    ∃ so sl, (∀ w, Calls Try.prog 12 #[.slice vo vl vc] w fun e w' => e = .returned (.slice so sl vc) ∧ w = w') ∧ SRA w1 (.slice so sl vc) (scr.take 40) := by
  rcases hS with ⟨h, h2⟩ | ⟨a, c', h, h3, h4⟩
  · cases h
    subst h2
    exact ⟨none, 0, fun w => short_nil w, .inl ⟨rfl, rfl⟩⟩
  · cases h
    refine ⟨some a, min scr.length 40, fun w => short_some a _ vc hvc w, .inr ⟨a, vc, by simp [Nat.min_comm], fun e => h3 (fun e2 => e (by rw [e2]; rfl)), ?_⟩⟩
    intro j u hu
    have e : flatT scr = flatT (scr.take 40) ++ flatT (scr.drop 40) := by simp only [flatT]; rw [← List.flatMap_append, List.take_append_drop]
    exact h4 _ _ (by rw [e, List.getElem?_append_left (List.getElem?_eq_some_iff.1 hu).1]; exact hu)
theorem ixB : (i : Nat) → i < 20 → ∀ w, (Instr.index 9 (.string (txB i)) (.int .i64 0)).run Try.prog w = .ok (.int .u8 (i : Int)) w
  | 0, _ => fun w => by kernel_rfl
  | 1, _ => fun w => by kernel_rfl
  | 2, _ => fun w => by kernel_rfl
  | 3, _ => fun w => by kernel_rfl
  | 4, _ => fun w => by kernel_rfl
  | 5, _ => fun w => by kernel_rfl
  | 6, _ => fun w => by kernel_rfl
  | 7, _ => fun w => by kernel_rfl
  | 8, _ => fun w => by kernel_rfl
  | 9, _ => fun w => by kernel_rfl
  | 10, _ => fun w => by kernel_rfl
  | 11, _ => fun w => by kernel_rfl
  | 12, _ => fun w => by kernel_rfl
  | 13, _ => fun w => by kernel_rfl
  | 14, _ => fun w => by kernel_rfl
  | 15, _ => fun w => by kernel_rfl
  | 16, _ => fun w => by kernel_rfl
  | 17, _ => fun w => by kernel_rfl
  | 18, _ => fun w => by kernel_rfl
  | 19, _ => fun w => by kernel_rfl
  | k + 20, h => absurd h (by omega)
theorem infoM : (Try.prog.info? 31).map (fun i => (i.zero, i.size, i.bytes)) = some (some (.agg #[.int .i64 0, .int .i64 0, .string ByteArray.empty]), 3, 32) := by kernel_rfl
def cells3 (z : Wt) : List Value := [.int .i64 z.src, .int .i64 z.dst, .string z.txt]
def flat3 (l : List Wt) : List Value := l.flatMap cells3
theorem flat3_length (xs : List Wt) : (flat3 xs).length = xs.length * 3 := by
  induction xs with
  | nil => rfl
  | cons x xs ih => simp only [flat3, List.flatMap_cons, List.length_append, List.length_cons] at *; rw [ih]; simp [cells3]; omega
theorem flat3_get (xs : List Wt) (i k : Nat) (hi : i < xs.length) (hk : k < 3) : (flat3 xs)[i * 3 + k]? = (cells3 xs[i])[k]? := by
  induction xs generalizing i with
  | nil => simp at hi
  | cons x xs ih =>
    have hl : (cells3 x).length = 3 := rfl
    cases i with
    | zero =>
      simp only [flat3, List.flatMap_cons, Nat.zero_mul, Nat.zero_add, List.getElem_cons_zero]
      rw [List.getElem?_append_left (by omega)]
    | succ i =>
      simp only [flat3, List.flatMap_cons, List.getElem_cons_succ] at ih ⊢
      rw [List.getElem?_append_right (by omega), hl, show (i + 1) * 3 + k - 3 = i * 3 + k by omega]
      exact ih i (by simpa using hi)
def lnNodes.T9 : Bool × List (List Nat × List Nat) := (true, [([], []), ([], []), ([0, 1], [0, 1]), ([2], [2]), ([3], [3]), ([], []), ([], []), ([5, 6], [5, 6]), ([7], [7]), ([8], [8]), ([], []), ([10], [10]), ([11], [11]), ([12], [12]), ([4, 9, 13], [4, 9, 13]), ([], []), ([15, 14, 0, 1, 2, 3, 4, 5, 6, 7, 8, 9, 10, 11, 12, 13, 14, 15], [14, 15])])
def lnNodes.B9 : List Nat := [0, 0, 3, 7, 15, 0, 0, 96, 224, 480, 0, 1024, 3072, 7168, 16383, 0, 65535]
theorem lnNodes.tab9 : rtab .any (opsOf Try.f6 9) = lnNodes.T9 := by kernel_rfl
theorem lnNodes.bits9 : waitsOk lnNodes.T9.2 lnNodes.B9 = true := by kernel_rfl

set_option maxRecDepth 100000 in
set_option maxHeartbeats 4000000 in
theorem linesNodes_walk (nn : Int) (vo : Option Addr) (vl vc : Nat) (scr : List Tb) (ao : Option Addr) (len c : Nat) (e0 e1 : Nat → Int) (w0 : World) (hn0 : 0 ≤ nn) (hn1 : nn ≤ 255)
    (hS : SRA w0 (.slice vo vl vc) scr) (hvc : vl ≤ vc)
    (hV : ∀ i, i < len → ∃ a, ao = some a ∧ a.block < w0.heap.size ∧ w0.cell? (a.add (i * 2)) = some (.int .i64 (e0 i)) ∧ w0.cell? (a.add (i * 2 + 1)) = some (.int .i64 (e1 i))) (hl : len ≤ maxLen) :
    Calls Try.prog 6 #[.int .u8 nn, .slice vo vl vc, .slice ao len c] w0 fun e w' => e = .returned (.bool true) ∧ Below w0.heap.size w0 w' := by
  have V := Lib.hid hV
  have S0 := Lib.hid hS
  have VC := Lib.hid hvc
  clear hV hS hvc
  go_enter Try.func6, Try.ntmps6
  go_wp2_with fail
  refine (sanity_any _).mono ?_
  rintro e w1 ⟨rfl, b1⟩
  have H1 := Lib.hid b1
  have S1 := S0.out.touch (Touch.of_below (s := fun _ => False) (show Below w0.heap.size w0 w1 from b1)) (fun _ _ => id)
  obtain ⟨so, sl, hsh, hss⟩ := short_any S1 VC.out
  have hf : (scr.take 40).length ≤ 1000 := by simp; omega
  generalize scr.take 40 = sc at *
  have SH := Lib.hid hsh
  have SS := Lib.hid hss
  have HF := Lib.hid hf
  clear hsh hss hf b1 S0 S1 VC
  have un : IntKind.i64.wrap nn = nn := IntWalk.i64_in _ (by omega)
  obtain ⟨n, hn⟩ : ∃ n : Int, n = nn % 5 := ⟨_, rfl⟩
  have N0 := Lib.hid (show 0 ≤ n ∧ n < 5 by omega)
  have HN := Lib.hid hn
  clear hn
  go_wp2_with fail
  rw [← HN.out]
  refine (SH.out _).mono ?_
  rintro e w' ⟨rfl, rfl⟩
  clear un
  go_wp2_with fail
  refine (lw_sra n _ sc w1 SS.out HF.out).mono ?_
  rintro e w3 ⟨la, rfl, a1, a2⟩
  have LA := Lib.hid (a1.mono (A' := fun i => i < w0.heap.size) (fun i hi h => Nat.lt_of_lt_of_le h H1.out.size))
  have H3 := Lib.hid (bthen' H1.out a2)
  have SS3 : Hid (SRA w3 (.slice so sl vc) sc) := Lib.hid (SS.out.touch (Touch.of_below (s := fun _ => False) a2) (fun _ _ => id))
  clear a1 a2 SS H1
  go_wp2_with fail
  refine (SH.out _).mono ?_
  rintro e w' ⟨rfl, rfl⟩
  go_wp2_with fail
  refine (lp_new _ la n 0 sc [] 1000 _ sc w3 LA.out SS3.out HF.out (fun i h => Nat.lt_of_lt_of_le h H3.out.size)).mono ?_
  rintro e w4 ⟨lb, rfl, a1, a2⟩
  have L4 := Lib.hid a1
  have H4 := Lib.hid (bthen' H3.out a2)
  clear a1 a2 LA H3 SS3 SH
  go_wp2_with fail
  go_loopw [12] (fun i wr => ∃ j : Nat, i = .int .i64 j ∧ j ≤ 20 ∧ j ≤ len ∧ Hid (LP wr (fun i => i < w0.heap.size) la n j sc (mL n sc e0 e1 txB j) lb 1000 j sc (mP n sc e0 e1 txB j)) ∧ Hid (Below w0.heap.size w0 wr)) (fun i _ => 20 - (intOf i).toNat)
  case atStart => exact ⟨0, rfl, by omega, by omega, L4, H4⟩
  case round =>
    clear L4 H4
    obtain ⟨j, rfl, hj, hjl, L, H⟩ := hrel
    by_cases hc : j < len ∧ j < 20
    · obtain ⟨h1, h2⟩ := hc
      obtain ⟨ad, rfl, hab, t0, t1⟩ := V.out j h1
      have hb : ∀ i, (ad.add i).block = ad.block := fun i => by unfold Addr.add; split <;> rfl
      have t1' : w0.cell? ⟨(ad.add (j * 2)).block, (ad.add (j * 2)).off + 1, none⟩ = some (.int .i64 (e1 j)) := by rw [← add_field _ _ 1 (by omega)]; exact t1
      have T0 := Aside0.mk (And.intro (show (ad.add (j * 2)).block < w0.heap.size by rw [hb]; exact hab) (And.intro t0 t1'))
      have ed : decide (j < len) = true := by simpa using h1
      have ed2 : decide ((j : Int) < 20) = true := by simp; omega
      have z0 := Aside0.mk (show (0 : Int) ≤ (j : Int) by omega)
      have z1 := Aside0.mk (show (j : Int) < 20 by omega)
      have z2 := Aside0.mk (show (j : Int) < (len : Int) by omega)
      have L3 := Aside0.mk L.out
      have H3 := Aside0.mk H.out
      clear hab hb t0 t1 t1' L H h1 h2
      go_wp2_with fail
      refine start_ (n := 17) (S := fun w' => True) (ds := []) #[false, false, false, false, false, false, false, false, false, false, false, false, false, false, false, false, false] (by kernel_rfl) rfl rfl trivial (fun hHeld => ?_)
      refine with_tabW lnNodes.tab9 lnNodes.bits9 (fun HT_ HW_ => ?_)
      have L : Aside0 (LP wr.drew (fun i => i < w0.heap.size) la n j sc (mL n sc e0 e1 txB j) lb 1000 j sc (mP n sc e0 e1 txB j)) := ⟨L3.out.quiet (bdrew (Below.refl _ wr))⟩
      have H : Aside0 (Below w0.heap.size w0 wr.drew) := ⟨bdrew H3.out⟩
      generalize wr.drew = w1' at *
      refine inv_at [0, 1, 2, 3, 4, 5, 6, 7, 8, 9, 10, 11, 12, 13, 14, 15, 16] (fun a0_ b a w' => ∃ (gb : Nat) (gm : Nat) (m12_ : Value) (m15_ : Value), a = putSel a0_ b [(0, 49, .slice (some ad) len c), (1, 50, .int .i64 (j : Int)), (2, 51, .pointer (some (ad.add (j * 2)))), (3, 52, .pointer (some (ad.add (j * 2)))), (4, 53, .int .i64 (e0 j)), (5, 54, .slice (some ad) len c), (6, 55, .int .i64 (j : Int)), (7, 56, .pointer (some (ad.add (j * 2)))), (8, 57, .pointer (some ⟨(ad.add (j * 2)).block, (ad.add (j * 2)).off + 1, none⟩)), (9, 58, .int .i64 (e1 j)), (10, 59, .int .i64 (j : Int)), (11, 60, .int .u8 (j : Int)), (12, 61, m12_), (13, 62, .string (txB j)), (14, 63, .agg #[.int .i64 (e0 j), .int .i64 (e1 j), .string (txB j)]), (15, 13, m15_)] ∧ (Below w0.heap.size w0 w') ∧ (b 15 = false → LP w' (fun i => i < w0.heap.size) la n j sc (mL n sc e0 e1 txB j) lb 1000 j sc (mP n sc e0 e1 txB j)) ∧ (b 15 = true → LP w' (fun i => i < w0.heap.size ∨ i = gm) la n j sc (mL n sc e0 e1 txB j) lb 1000 j sc (mP n sc e0 e1 txB j)) ∧ (b 12 = true → b 13 = false → Blk w' gb #[.int .u8 (j : Int)] 5) ∧ (b 15 = true → b 16 = false → Blk w' gm #[.int .i64 0, .int .i64 0, .string ⟨#[]⟩] 31) ∧ (b 15 = true → w0.heap.size ≤ gm) ∧ (b 16 = true → Blk w' gm #[.int .i64 (e0 j), .int .i64 (e1 j), .string (txB j)] 31) ∧ (b 12 = true → (m12_ : Value) = .slice (some ⟨gb, 0, none⟩) 1 1) ∧ (b 15 = true → (m15_ : Value) = .pointer (some ⟨gm, 0, none⟩))) HT_.out HW_.out (by kernel_rfl) (by kernel_rfl) ?_ ?_ ?_
      · exact ⟨0, 0, .bool false, .bool false, by simp only [putSel, Bool.false_eq_true, if_false], H.out, fun _ => L.out, fun h_ => absurd h_ (by decide), fun h_ => absurd h_ (by decide), fun h_ => absurd h_ (by decide), fun h_ => absurd h_ (by decide), fun h_ => absurd h_ (by decide), fun h_ => absurd h_ (by decide), fun h_ => absurd h_ (by decide)⟩
      · skip
        clear H L
        refine steps_cons ?_ ?_
        · rintro b a w' ⟨gb, gm, m12_, m15_, ha, Q_H, Q_L, Q_L2, Q_Z, Q_M0, Q_G, Q_M, Q_X12_, Q_X15_⟩ hb_ hon hoff
          refine ⟨_, rfl, fun K hK => ?_⟩
          have e2 : a.tmps[2]? = some (.slice (some ad) len c) := by rw [ha]; exact (putSel_off rfl).trans rfl
          replace ha := Aside0.mk ha
          have H := Aside0.mk Q_H
          refine value_ (w1 := w') (v := .slice (some ad) len c) (by rfl) rfl ?_ ?_
          · go_simp
            (try simp only [i64_w])
            try rfl
          refine hK.out _ _ ⟨gb, gm, m12_, m15_, (by rw [ha.out]; exact putSel_upk 0 hb_ rfl rfl rfl), Q_H, Q_L, Q_L2, Q_Z, Q_M0, Q_G, fun h0_ => absurd ((hoff 16 (by kernel_rfl)).symm.trans h0_) (by decide), Q_X12_, Q_X15_⟩
        refine steps_cons ?_ ?_
        · rintro b a w' ⟨gb, gm, m12_, m15_, ha, Q_H, Q_L, Q_L2, Q_Z, Q_M0, Q_G, Q_M, Q_X12_, Q_X15_⟩ hb_ hon hoff
          refine ⟨_, rfl, fun K hK => ?_⟩
          have e12 : a.tmps[12]? = some (.int .i64 (j : Int)) := by rw [ha]; exact (putSel_off rfl).trans rfl
          replace ha := Aside0.mk ha
          have H := Aside0.mk Q_H
          refine value_ (w1 := w') (v := .int .i64 (j : Int)) (by rfl) rfl ?_ ?_
          · go_simp
            (try simp only [i64_w])
            try rfl
          refine hK.out _ _ ⟨gb, gm, m12_, m15_, (by rw [ha.out]; exact putSel_upk 1 hb_ rfl rfl rfl), Q_H, Q_L, Q_L2, Q_Z, Q_M0, Q_G, fun h0_ => absurd ((hoff 16 (by kernel_rfl)).symm.trans h0_) (by decide), Q_X12_, Q_X15_⟩
        refine steps_cons ?_ ?_
        · rintro b a w' ⟨gb, gm, m12_, m15_, ha, Q_H, Q_L, Q_L2, Q_Z, Q_M0, Q_G, Q_M, Q_X12_, Q_X15_⟩ hb_ hon hoff
          refine ⟨_, rfl, fun K hK => ?_⟩
          have e49 : a.tmps[49]? = some (.slice (some ad) len c) := by rw [ha]; exact putSel_on (e := (0, 49, .slice (some ad) len c)) 0 rfl rfl (hon 0 (by kernel_rfl)) rfl
          have e50 : a.tmps[50]? = some (.int .i64 (j : Int)) := by rw [ha]; exact putSel_on (e := (1, 50, .int .i64 (j : Int))) 1 rfl rfl (hon 1 (by kernel_rfl)) rfl
          replace ha := Aside0.mk ha
          have H := Aside0.mk Q_H
          have y0 := z0.out
          have y1 := z2.out
          refine value_ (w1 := w') (v := .pointer (some (ad.add (j * 2)))) (by rfl) rfl ?_ ?_
          · go_simp
            (try simp only [i64_w])
            try rfl
          refine hK.out _ _ ⟨gb, gm, m12_, m15_, (by rw [ha.out]; exact putSel_upk 2 hb_ rfl rfl rfl), Q_H, Q_L, Q_L2, Q_Z, Q_M0, Q_G, fun h0_ => absurd ((hoff 16 (by kernel_rfl)).symm.trans h0_) (by decide), Q_X12_, Q_X15_⟩
        refine steps_cons ?_ ?_
        · rintro b a w' ⟨gb, gm, m12_, m15_, ha, Q_H, Q_L, Q_L2, Q_Z, Q_M0, Q_G, Q_M, Q_X12_, Q_X15_⟩ hb_ hon hoff
          refine ⟨_, rfl, fun K hK => ?_⟩
          have e51 : a.tmps[51]? = some (.pointer (some (ad.add (j * 2)))) := by rw [ha]; exact putSel_on (e := (2, 51, .pointer (some (ad.add (j * 2))))) 2 rfl rfl (hon 2 (by kernel_rfl)) rfl
          replace ha := Aside0.mk ha
          have H := Aside0.mk Q_H
          refine value_ (w1 := w') (v := .pointer (some (ad.add (j * 2)))) (by rfl) rfl ?_ ?_
          · go_simp
            (try simp only [i64_w])
            try rfl
          refine hK.out _ _ ⟨gb, gm, m12_, m15_, (by rw [ha.out]; exact putSel_upk 3 hb_ rfl rfl rfl), Q_H, Q_L, Q_L2, Q_Z, Q_M0, Q_G, fun h0_ => absurd ((hoff 16 (by kernel_rfl)).symm.trans h0_) (by decide), Q_X12_, Q_X15_⟩
        refine steps_cons ?_ ?_
        · rintro b a w' ⟨gb, gm, m12_, m15_, ha, Q_H, Q_L, Q_L2, Q_Z, Q_M0, Q_G, Q_M, Q_X12_, Q_X15_⟩ hb_ hon hoff
          refine ⟨_, rfl, fun K hK => ?_⟩
          have e52 : a.tmps[52]? = some (.pointer (some (ad.add (j * 2)))) := by rw [ha]; exact putSel_on (e := (3, 52, .pointer (some (ad.add (j * 2))))) 3 rfl rfl (hon 3 (by kernel_rfl)) rfl
          replace ha := Aside0.mk ha
          have H := Aside0.mk Q_H
          have c0 : w'.cell? (ad.add (j * 2)) = some (.int .i64 (e0 j)) := (H.out.cell T0.out.1).trans T0.out.2.1
          refine value_ (w1 := w') (v := .int .i64 (e0 j)) (by rfl) rfl ?_ ?_
          · go_simp
            (try simp only [i64_w])
            try rfl
          refine hK.out _ _ ⟨gb, gm, m12_, m15_, (by rw [ha.out]; exact putSel_upk 4 hb_ rfl rfl rfl), Q_H, Q_L, Q_L2, Q_Z, Q_M0, Q_G, fun h0_ => absurd ((hoff 16 (by kernel_rfl)).symm.trans h0_) (by decide), Q_X12_, Q_X15_⟩
        refine steps_cons ?_ ?_
        · rintro b a w' ⟨gb, gm, m12_, m15_, ha, Q_H, Q_L, Q_L2, Q_Z, Q_M0, Q_G, Q_M, Q_X12_, Q_X15_⟩ hb_ hon hoff
          refine ⟨_, rfl, fun K hK => ?_⟩
          have e2 : a.tmps[2]? = some (.slice (some ad) len c) := by rw [ha]; exact (putSel_off rfl).trans rfl
          replace ha := Aside0.mk ha
          have H := Aside0.mk Q_H
          refine value_ (w1 := w') (v := .slice (some ad) len c) (by rfl) rfl ?_ ?_
          · go_simp
            (try simp only [i64_w])
            try rfl
          refine hK.out _ _ ⟨gb, gm, m12_, m15_, (by rw [ha.out]; exact putSel_upk 5 hb_ rfl rfl rfl), Q_H, Q_L, Q_L2, Q_Z, Q_M0, Q_G, fun h0_ => absurd ((hoff 16 (by kernel_rfl)).symm.trans h0_) (by decide), Q_X12_, Q_X15_⟩
        refine steps_cons ?_ ?_
        · rintro b a w' ⟨gb, gm, m12_, m15_, ha, Q_H, Q_L, Q_L2, Q_Z, Q_M0, Q_G, Q_M, Q_X12_, Q_X15_⟩ hb_ hon hoff
          refine ⟨_, rfl, fun K hK => ?_⟩
          have e12 : a.tmps[12]? = some (.int .i64 (j : Int)) := by rw [ha]; exact (putSel_off rfl).trans rfl
          replace ha := Aside0.mk ha
          have H := Aside0.mk Q_H
          refine value_ (w1 := w') (v := .int .i64 (j : Int)) (by rfl) rfl ?_ ?_
          · go_simp
            (try simp only [i64_w])
            try rfl
          refine hK.out _ _ ⟨gb, gm, m12_, m15_, (by rw [ha.out]; exact putSel_upk 6 hb_ rfl rfl rfl), Q_H, Q_L, Q_L2, Q_Z, Q_M0, Q_G, fun h0_ => absurd ((hoff 16 (by kernel_rfl)).symm.trans h0_) (by decide), Q_X12_, Q_X15_⟩
        refine steps_cons ?_ ?_
        · rintro b a w' ⟨gb, gm, m12_, m15_, ha, Q_H, Q_L, Q_L2, Q_Z, Q_M0, Q_G, Q_M, Q_X12_, Q_X15_⟩ hb_ hon hoff
          refine ⟨_, rfl, fun K hK => ?_⟩
          have e54 : a.tmps[54]? = some (.slice (some ad) len c) := by rw [ha]; exact putSel_on (e := (5, 54, .slice (some ad) len c)) 5 rfl rfl (hon 5 (by kernel_rfl)) rfl
          have e55 : a.tmps[55]? = some (.int .i64 (j : Int)) := by rw [ha]; exact putSel_on (e := (6, 55, .int .i64 (j : Int))) 6 rfl rfl (hon 6 (by kernel_rfl)) rfl
          replace ha := Aside0.mk ha
          have H := Aside0.mk Q_H
          have y0 := z0.out
          have y1 := z2.out
          refine value_ (w1 := w') (v := .pointer (some (ad.add (j * 2)))) (by rfl) rfl ?_ ?_
          · go_simp
            (try simp only [i64_w])
            try rfl
          refine hK.out _ _ ⟨gb, gm, m12_, m15_, (by rw [ha.out]; exact putSel_upk 7 hb_ rfl rfl rfl), Q_H, Q_L, Q_L2, Q_Z, Q_M0, Q_G, fun h0_ => absurd ((hoff 16 (by kernel_rfl)).symm.trans h0_) (by decide), Q_X12_, Q_X15_⟩
        refine steps_cons ?_ ?_
        · rintro b a w' ⟨gb, gm, m12_, m15_, ha, Q_H, Q_L, Q_L2, Q_Z, Q_M0, Q_G, Q_M, Q_X12_, Q_X15_⟩ hb_ hon hoff
          refine ⟨_, rfl, fun K hK => ?_⟩
          have e56 : a.tmps[56]? = some (.pointer (some (ad.add (j * 2)))) := by rw [ha]; exact putSel_on (e := (7, 56, .pointer (some (ad.add (j * 2))))) 7 rfl rfl (hon 7 (by kernel_rfl)) rfl
          replace ha := Aside0.mk ha
          have H := Aside0.mk Q_H
          refine value_ (w1 := w') (v := .pointer (some ⟨(ad.add (j * 2)).block, (ad.add (j * 2)).off + 1, none⟩)) (by rfl) rfl ?_ ?_
          · go_simp
            (try simp only [i64_w])
            try rfl
          refine hK.out _ _ ⟨gb, gm, m12_, m15_, (by rw [ha.out]; exact putSel_upk 8 hb_ rfl rfl rfl), Q_H, Q_L, Q_L2, Q_Z, Q_M0, Q_G, fun h0_ => absurd ((hoff 16 (by kernel_rfl)).symm.trans h0_) (by decide), Q_X12_, Q_X15_⟩
        refine steps_cons ?_ ?_
        · rintro b a w' ⟨gb, gm, m12_, m15_, ha, Q_H, Q_L, Q_L2, Q_Z, Q_M0, Q_G, Q_M, Q_X12_, Q_X15_⟩ hb_ hon hoff
          refine ⟨_, rfl, fun K hK => ?_⟩
          have e57 : a.tmps[57]? = some (.pointer (some ⟨(ad.add (j * 2)).block, (ad.add (j * 2)).off + 1, none⟩)) := by rw [ha]; exact putSel_on (e := (8, 57, .pointer (some ⟨(ad.add (j * 2)).block, (ad.add (j * 2)).off + 1, none⟩))) 8 rfl rfl (hon 8 (by kernel_rfl)) rfl
          replace ha := Aside0.mk ha
          have H := Aside0.mk Q_H
          have c0 : w'.cell? ⟨(ad.add (j * 2)).block, (ad.add (j * 2)).off + 1, none⟩ = some (.int .i64 (e1 j)) := (H.out.cell (p := ⟨(ad.add (j * 2)).block, (ad.add (j * 2)).off + 1, none⟩) T0.out.1).trans T0.out.2.2
          refine value_ (w1 := w') (v := .int .i64 (e1 j)) (by rfl) rfl ?_ ?_
          · go_simp
            (try simp only [i64_w])
            try rfl
          refine hK.out _ _ ⟨gb, gm, m12_, m15_, (by rw [ha.out]; exact putSel_upk 9 hb_ rfl rfl rfl), Q_H, Q_L, Q_L2, Q_Z, Q_M0, Q_G, fun h0_ => absurd ((hoff 16 (by kernel_rfl)).symm.trans h0_) (by decide), Q_X12_, Q_X15_⟩
        refine steps_cons ?_ ?_
        · rintro b a w' ⟨gb, gm, m12_, m15_, ha, Q_H, Q_L, Q_L2, Q_Z, Q_M0, Q_G, Q_M, Q_X12_, Q_X15_⟩ hb_ hon hoff
          refine ⟨_, rfl, fun K hK => ?_⟩
          have e12 : a.tmps[12]? = some (.int .i64 (j : Int)) := by rw [ha]; exact (putSel_off rfl).trans rfl
          replace ha := Aside0.mk ha
          have H := Aside0.mk Q_H
          refine value_ (w1 := w') (v := .int .i64 (j : Int)) (by rfl) rfl ?_ ?_
          · go_simp
            (try simp only [i64_w])
            try rfl
          refine hK.out _ _ ⟨gb, gm, m12_, m15_, (by rw [ha.out]; exact putSel_upk 10 hb_ rfl rfl rfl), Q_H, Q_L, Q_L2, fun h0_ _ => absurd ((hoff 12 (by kernel_rfl)).symm.trans h0_) (by decide), Q_M0, Q_G, fun h0_ => absurd ((hoff 16 (by kernel_rfl)).symm.trans h0_) (by decide), fun h0_ => absurd ((hoff 12 (by kernel_rfl)).symm.trans h0_) (by decide), Q_X15_⟩
        refine steps_cons ?_ ?_
        · rintro b a w' ⟨gb, gm, m12_, m15_, ha, Q_H, Q_L, Q_L2, Q_Z, Q_M0, Q_G, Q_M, Q_X12_, Q_X15_⟩ hb_ hon hoff
          refine ⟨_, rfl, fun K hK => ?_⟩
          have e59 : a.tmps[59]? = some (.int .i64 (j : Int)) := by rw [ha]; exact putSel_on (e := (10, 59, .int .i64 (j : Int))) 10 rfl rfl (hon 10 (by kernel_rfl)) rfl
          replace ha := Aside0.mk ha
          have H := Aside0.mk Q_H
          have y0 : IntKind.u8.wrap (j : Int) = (j : Int) := IntWalk.u8_in _ (by have := z1.out; omega)
          refine value_ (w1 := w') (v := .int .u8 (j : Int)) (by rfl) rfl ?_ ?_
          · go_simp
            (try simp only [i64_w])
            try rfl
          refine hK.out _ _ ⟨gb, gm, m12_, m15_, (by rw [ha.out]; exact putSel_upk 11 hb_ rfl rfl rfl), Q_H, Q_L, Q_L2, fun h0_ _ => absurd ((hoff 12 (by kernel_rfl)).symm.trans h0_) (by decide), Q_M0, Q_G, fun h0_ => absurd ((hoff 16 (by kernel_rfl)).symm.trans h0_) (by decide), fun h0_ => absurd ((hoff 12 (by kernel_rfl)).symm.trans h0_) (by decide), Q_X15_⟩
        refine steps_cons ?_ ?_
        · rintro b a w' ⟨gb, gm, m12_, m15_, ha, Q_H, Q_L, Q_L2, Q_Z, Q_M0, Q_G, Q_M, Q_X12_, Q_X15_⟩ hb_ hon hoff
          refine ⟨_, rfl, fun K hK => ?_⟩
          have e60 : a.tmps[60]? = some (.int .u8 (j : Int)) := by rw [ha]; exact putSel_on (e := (11, 60, .int .u8 (j : Int))) 11 rfl rfl (hon 11 (by kernel_rfl)) rfl
          replace ha := Aside0.mk ha
          have H := Aside0.mk Q_H
          refine value_ (w1 := w'.alloc (.cells #[.int .u8 (j : Int)] 5)) (v := .slice (some ⟨w'.heap.size, 0, none⟩) 1 1) (by rfl) rfl ?_ ?_
          · go_simp
          refine hK.out _ _ ⟨w'.heap.size, gm, (.slice (some ⟨w'.heap.size, 0, none⟩) 1 1), m15_, (by rw [ha.out]; exact putSel_upk 12 hb_ rfl rfl rfl), balloc H.out _, fun h0_ => (Q_L h0_).quiet (balloc (Below.refl _ w') _), fun h0_ => (Q_L2 h0_).quiet (balloc (Below.refl _ w') _), fun _ _ => Blk.new w' _ _ rfl, fun h0_ h1_ => (Q_M0 h0_ h1_).alloc _, Q_G, fun h0_ => absurd ((hoff 16 (by kernel_rfl)).symm.trans h0_) (by decide), fun _ => rfl, Q_X15_⟩
        refine steps_cons ?_ ?_
        · rintro b a w' ⟨gb, gm, m12_, m15_, ha, Q_H, Q_L, Q_L2, Q_Z, Q_M0, Q_G, Q_M, Q_X12_, Q_X15_⟩ hb_ hon hoff
          refine ⟨_, rfl, fun K hK => ?_⟩
          have e61 : a.tmps[61]? = some (m12_) := by rw [ha]; exact putSel_on (e := (12, 61, m12_)) 12 rfl rfl (hon 12 (by kernel_rfl)) rfl
          rw [Q_X12_ (hon 12 (by kernel_rfl))] at e61
          replace ha := Aside0.mk ha
          have H := Aside0.mk Q_H
          have Z := Aside0.mk (Q_Z (hon 12 (by kernel_rfl)) hb_)
          have c0 := conv_one j gb w' (by have := z1.out; omega) (Z.out.cell 0)
          refine value_ (w1 := w') (v := .string (txB j)) (by rfl) rfl ?_ ?_
          · go_simp
            (try simp only [i64_w])
            try rfl
          refine hK.out _ _ ⟨gb, gm, m12_, m15_, (by rw [ha.out]; exact putSel_upk 13 hb_ rfl rfl rfl), Q_H, Q_L, Q_L2, fun _ h1_ => absurd ((up_self b 13).symm.trans h1_) (by decide), Q_M0, Q_G, fun h0_ => absurd ((hoff 16 (by kernel_rfl)).symm.trans h0_) (by decide), Q_X12_, Q_X15_⟩
        refine steps_cons ?_ ?_
        · rintro b a w' ⟨gb, gm, m12_, m15_, ha, Q_H, Q_L, Q_L2, Q_Z, Q_M0, Q_G, Q_M, Q_X12_, Q_X15_⟩ hb_ hon hoff
          refine ⟨_, rfl, fun K hK => ?_⟩
          have e53 : a.tmps[53]? = some (.int .i64 (e0 j)) := by rw [ha]; exact putSel_on (e := (4, 53, .int .i64 (e0 j))) 4 rfl rfl (hon 4 (by kernel_rfl)) rfl
          have e58 : a.tmps[58]? = some (.int .i64 (e1 j)) := by rw [ha]; exact putSel_on (e := (9, 58, .int .i64 (e1 j))) 9 rfl rfl (hon 9 (by kernel_rfl)) rfl
          have e62 : a.tmps[62]? = some (.string (txB j)) := by rw [ha]; exact putSel_on (e := (13, 62, .string (txB j))) 13 rfl rfl (hon 13 (by kernel_rfl)) rfl
          replace ha := Aside0.mk ha
          have H := Aside0.mk Q_H
          refine value_ (w1 := w') (v := .agg #[.int .i64 (e0 j), .int .i64 (e1 j), .string (txB j)]) (by rfl) rfl ?_ ?_
          · go_simp
            (try simp only [i64_w])
            try rfl
          refine hK.out _ _ ⟨gb, gm, m12_, m15_, (by rw [ha.out]; exact putSel_upk 14 hb_ rfl rfl rfl), Q_H, Q_L, Q_L2, fun _ h1_ => absurd ((hon 13 (by kernel_rfl)).symm.trans h1_) (by decide), Q_M0, Q_G, fun h0_ => absurd ((hoff 16 (by kernel_rfl)).symm.trans h0_) (by decide), Q_X12_, Q_X15_⟩
        refine steps_cons ?_ ?_
        · rintro b a w' ⟨gb, gm, m12_, m15_, ha, Q_H, Q_L, Q_L2, Q_Z, Q_M0, Q_G, Q_M, Q_X12_, Q_X15_⟩ hb_ hon hoff
          refine ⟨_, rfl, fun K hK => ?_⟩
          replace ha := Aside0.mk ha
          have H := Aside0.mk Q_H
          have L := Aside0.mk (Q_L hb_)
          refine value_ (w1 := w'.alloc (.cells #[.int .i64 0, .int .i64 0, .string ⟨#[]⟩] 31)) (v := .pointer (some ⟨w'.heap.size, 0, none⟩)) (by rfl) rfl ?_ ?_
          · go_simp
          refine hK.out _ _ ⟨gb, w'.heap.size, m12_, (.pointer (some ⟨w'.heap.size, 0, none⟩)), (by rw [ha.out]; exact putSel_upk 15 hb_ rfl rfl rfl), balloc H.out _, fun h0_ => absurd ((up_self b 15).symm.trans h0_) (by decide), fun _ => (L.out.mono (A' := fun i => i < w0.heap.size ∨ i = w'.heap.size) (by rintro i hi (h | h); exact h; omega)).quiet (balloc (Below.refl _ w') _), fun h0_ h1_ => (Q_Z h0_ h1_).alloc _, fun _ _ => Blk.new w' _ _ rfl, fun _ => H.out.size, fun h0_ => absurd ((hoff 16 (by kernel_rfl)).symm.trans h0_) (by decide), Q_X12_, fun _ => rfl⟩
        refine steps_cons ?_ ?_
        · rintro b a w' ⟨gb, gm, m12_, m15_, ha, Q_H, Q_L, Q_L2, Q_Z, Q_M0, Q_G, Q_M, Q_X12_, Q_X15_⟩ hb_ hon hoff
          refine ⟨_, rfl, fun K hK => ?_⟩
          have e13 : a.tmps[13]? = some (m15_) := by rw [ha]; exact putSel_on (e := (15, 13, m15_)) 15 rfl rfl (hon 15 (by kernel_rfl)) rfl
          rw [Q_X15_ (hon 15 (by kernel_rfl))] at e13
          have e63 : a.tmps[63]? = some (.agg #[.int .i64 (e0 j), .int .i64 (e1 j), .string (txB j)]) := by rw [ha]; exact putSel_on (e := (14, 63, .agg #[.int .i64 (e0 j), .int .i64 (e1 j), .string (txB j)])) 14 rfl rfl (hon 14 (by kernel_rfl)) rfl
          replace ha := Aside0.mk ha
          have H := Aside0.mk Q_H
          have L2 := Aside0.mk (Q_L2 (hon 15 (by kernel_rfl)))
          have M0 := Aside0.mk (Q_M0 (hon 15 (by kernel_rfl)) hb_)
          have G := Aside0.mk (Q_G (hon 15 (by kernel_rfl)))
          have c0 : w'.cell? ⟨gm, 0, none⟩ = some (.int .i64 0) := M0.out.cell 0
          have c1 : w'.cell? ⟨gm, 1, none⟩ = some (.int .i64 0) := M0.out.cell 1
          have c2 : w'.cell? ⟨gm, 2, none⟩ = some (.string ⟨#[]⟩) := M0.out.cell 2
          have f0 := M0.out.frozen 0
          have f1 := M0.out.frozen 1
          have f2 := M0.out.frozen 2
          refine skip_ (w1 := (((w'.setCell ⟨gm, 0, none⟩ (.int .i64 (e0 j))).setCell ⟨gm, 1, none⟩ (.int .i64 (e1 j))).setCell ⟨gm, 2, none⟩ (.string (txB j)))) (by rfl) rfl ?_ ?_
          · go_simp
          refine hK.out _ _ ⟨gb, gm, m12_, m15_, (by rw [ha.out]; exact putSel_none (v := undef) rfl), H.out.trans ((touch3 w' gm 0 1 2 (.int .i64 (e0 j)) (.int .i64 (e1 j)) (.string (txB j))).below H.out.size (fun i e => by rw [e]; exact G.out)), fun h0_ => absurd ((hon 15 (by kernel_rfl)).symm.trans h0_) (by decide), fun _ => L2.out.touch (touch3 w' gm 0 1 2 (.int .i64 (e0 j)) (.int .i64 (e1 j)) (.string (txB j))) (fun i h1 h2 e => h1 (.inr e)), fun _ h1_ => absurd ((hon 13 (by kernel_rfl)).symm.trans h1_) (by decide), fun _ h1_ => absurd ((up_self b 16).symm.trans h1_) (by decide), Q_G, fun _ => ((M0.out.put 0 _ rfl).put 1 _ rfl).put 2 _ rfl, Q_X12_, Q_X15_⟩
        exact steps_nil
      · rintro b a w' hall ⟨gb, gm, m12_, m15_, ha, Q_H, Q_L, Q_L2, Q_Z, Q_M0, Q_G, Q_M, Q_X12_, Q_X15_⟩
        clear H L
        have hb0_ := hall 0 (by kernel_rfl)
        have hb1_ := hall 1 (by kernel_rfl)
        have hb2_ := hall 2 (by kernel_rfl)
        have hb3_ := hall 3 (by kernel_rfl)
        have hb4_ := hall 4 (by kernel_rfl)
        have hb5_ := hall 5 (by kernel_rfl)
        have hb6_ := hall 6 (by kernel_rfl)
        have hb7_ := hall 7 (by kernel_rfl)
        have hb8_ := hall 8 (by kernel_rfl)
        have hb9_ := hall 9 (by kernel_rfl)
        have hb10_ := hall 10 (by kernel_rfl)
        have hb11_ := hall 11 (by kernel_rfl)
        have hb12_ := hall 12 (by kernel_rfl)
        have hb13_ := hall 13 (by kernel_rfl)
        have hb14_ := hall 14 (by kernel_rfl)
        have hb15_ := hall 15 (by kernel_rfl)
        have hb16_ := hall 16 (by kernel_rfl)
        subst ha
        obtain rfl := Q_X12_ hb12_
        obtain rfl := Q_X15_ hb15_
        simp only [putSel, hb0_, hb1_, hb2_, hb3_, hb4_, hb5_, hb6_, hb7_, hb8_, hb9_, hb10_, hb11_, hb12_, hb13_, hb14_, hb15_, hb16_, if_true, Act.put, List.setIfInBounds_toArray, List.set_cons_zero, List.set_cons_succ]
        have H := Aside0.mk Q_H
        clear Q_H
        clear Q_L
        have L2 := Aside0.mk (Q_L2 hb15_)
        clear Q_L2
        clear Q_Z
        clear Q_M0
        have G := Aside0.mk (Q_G hb15_)
        clear Q_G
        have M := Aside0.mk (Q_M hb16_)
        clear Q_M
        clear hall hb0_ hb1_ hb2_ hb3_ hb4_ hb5_ hb6_ hb7_ hb8_ hb9_ hb10_ hb11_ hb12_ hb13_ hb14_ hb15_ hb16_
        have L5 := Lib.hid L2.out
        have H5 := Lib.hid H.out
        have M5 := Lib.hid M.out
        have G5 := Lib.hid G.out
        have c0 : w'.cell? ⟨gm, 0, none⟩ = some (.int .i64 (e0 j)) := M.out.cell 0
        have c1 : w'.cell? ⟨gm, 1, none⟩ = some (.int .i64 (e1 j)) := M.out.cell 1
        have c2 : w'.cell? ⟨gm, 2, none⟩ = some (.string (txB j)) := M.out.cell 2
        have K5 : Hid (j < 20 ∧ gm < w'.heap.size ∧ j < len) := Lib.hid ⟨by have := z1.out; omega, M.out.lt, by have := z2.out; omega⟩
        clear L2 H M G z0 z1 z2 T0 ed ed2
        go_wp2_with fail
        refine (lp_send (fun i => i < w0.heap.size ∨ i = gm) la n j sc (mL n sc e0 e1 txB j) lb 1000 j sc (mP n sc e0 e1 txB j) 0 (e0 j) (e1 j) (txB j) w' L5.out (by have := K5.out; omega) (by have := K5.out; have := mL_len n sc e0 e1 txB j; omega) HF.out (by rintro i (h | rfl); exact Nat.lt_of_lt_of_le h H5.out.size; exact K5.out.2.1)).mono ?_
        rintro e w5 ⟨rfl, a1, a2⟩
        have L6 : Hid (LP w5 (fun i => i < w0.heap.size ∨ i = gm) la n (j + 1) sc (mL n sc e0 e1 txB (j + 1)) lb 1000 j sc (mP n sc e0 e1 txB j)) := Lib.hid a1
        have M6 := Lib.hid (a2.blk M5.out (fun h => h (.inr rfl)))
        have H6 := Lib.hid (H5.out.trans (a2.below H5.out.size (fun i h => Nat.le_of_not_lt (fun h2 => h (.inl h2)))))
        clear a1 a2 L5 M5 H5 c0 c1 c2
        have c2 : w5.cell? ⟨gm, 2, none⟩ = some (.string (txB j)) := M6.out.cell 2
        go_wp2_with fail
        refine (told_any _ _).mono ?_
        rintro e w6 ⟨rfl, a1⟩
        have L7 := Lib.hid (((L6.out.quiet a1).mono (A' := fun i => i < w0.heap.size ∨ i = gm ∨ i = w6.heap.size) (by rintro i hi (h | h | h); exact .inl h; exact .inr h; omega)).quiet (balloc (Below.refl _ w6) (.cells #[.int .i64 0, .int .i64 1, .string (txB j)] 31)))
        have M7 := Lib.hid ((M6.out.below a1).alloc (.cells #[.int .i64 0, .int .i64 1, .string (txB j)] 31))
        have H7 := Lib.hid (balloc (bthen' H6.out a1) (.cells #[.int .i64 0, .int .i64 1, .string (txB j)] 31))
        have X7 := Lib.hid (Blk.new w6 #[.int .i64 0, .int .i64 1, .string (txB j)] 31 rfl)
        have GX := Lib.hid (show w0.heap.size ≤ w6.heap.size from (bthen' H6.out a1).size)
        have NX := Lib.hid (show gm ≠ w6.heap.size from Nat.ne_of_lt (M6.out.below a1).lt)
        clear a1 L6 M6 H6 c2
        go_upto_region 12 with fail
        generalize hw7 : w6.alloc (.cells #[.int .i64 0, .int .i64 1, .string (txB j)] 31) = w7 at *
        obtain ⟨gx, hgx⟩ : ∃ gx, gx = w6.heap.size := ⟨_, rfl⟩
        rw [← hgx] at L7 X7 GX NX ⊢
        clear hw7 hgx
        have c0 : w7.cell? ⟨gm, 0, none⟩ = some (.int .i64 (e0 j)) := M7.out.cell 0
        have c1 : w7.cell? ⟨gm, 1, none⟩ = some (.int .i64 (e1 j)) := M7.out.cell 1
        have c2 : w7.cell? ⟨gm, 2, none⟩ = some (.string (txB j)) := M7.out.cell 2
        have x0 : w7.cell? ⟨gx, 0, none⟩ = some (.int .i64 0) := X7.out.cell 0
        have x1 : w7.cell? ⟨gx, 1, none⟩ = some (.int .i64 1) := X7.out.cell 1
        have x2 : w7.cell? ⟨gx, 2, none⟩ = some (.string (txB j)) := X7.out.cell 2
        have f0 := X7.out.frozen 0
        have f1 := X7.out.frozen 1
        have f2 := X7.out.frozen 2
        have ways : (¬ 0 ≤ e0 j) ∨ (0 ≤ e0 j ∧ ¬ e0 j < n) ∨ (0 ≤ e0 j ∧ e0 j < n ∧ ¬ 0 ≤ e1 j) ∨ (0 ≤ e0 j ∧ e0 j < n ∧ 0 ≤ e1 j ∧ ¬ e1 j < n) ∨ (0 ≤ e0 j ∧ e0 j < n ∧ 0 ≤ e1 j ∧ e1 j < n) := by omega
        have IN : inN n e0 e1 j = decide (0 ≤ e0 j ∧ e0 j < n ∧ 0 ≤ e1 j ∧ e1 j < n) := by unfold inN nodeB; simp [Bool.and_assoc]
        have HIN := Lib.hid IN
        clear IN
        rcases ways with q | ⟨q, q2⟩ | ⟨q, q2, q3⟩ | ⟨q, q2, q3, q4⟩ | ⟨q, q2, q3, q4⟩
        all_goals
          (try have d1 : decide (0 ≤ e0 j) = false := by simpa using q)
          (try have d1 : decide (0 ≤ e0 j) = true := by simpa using q)
          (try have d2 : decide (e0 j < n) = false := by simpa using q2)
          (try have d2 : decide (e0 j < n) = true := by simpa using q2)
          (try have d3 : decide (0 ≤ e1 j) = false := by simpa using q3)
          (try have d3 : decide (0 ≤ e1 j) = true := by simpa using q3)
          (try have d4 : decide (e1 j < n) = false := by simpa using q4)
          (try have d4 : decide (e1 j < n) = true := by simpa using q4)
          go_wp2_with fail
          (try clear d1)
          (try clear d2)
          (try clear d3)
          (try clear d4)
          clear c0 c1 c2 x0 x1 x2 f0 f1 f2
        · have q2 : True := trivial
          have q3 : True := trivial
          have q4 : True := trivial
          have L8 := L7
          have H8 := H7
          have S8 : Hid (gm < w7.heap.size ∧ gx < w7.heap.size) := Lib.hid ⟨M7.out.lt, X7.out.lt⟩
          clear L7 H7 M7 X7
          have e9 : mP n sc e0 e1 txB (j + 1) = mP n sc e0 e1 txB j ++ sendL 1000 j sc 0 0 1 (txB j) := by
            rw [mP]; unfold xa xb; rw [HIN.out, show decide (0 ≤ e0 j ∧ e0 j < n ∧ 0 ≤ e1 j ∧ e1 j < n) = false from by simp; omega]; simp
          refine (lp_send (fun i => i < w0.heap.size ∨ i = gm ∨ i = gx) lb 1000 j sc (mP n sc e0 e1 txB j) la n (j + 1) sc (mL n sc e0 e1 txB (j + 1)) 0 0 1 (txB j) _ L8.out.swap (by have := K5.out; omega) (by have := K5.out; have := mP_len n sc e0 e1 txB j; omega) HF.out (by rintro i (h | rfl | rfl); exact Nat.lt_of_lt_of_le h H8.out.size; exact S8.out.1; exact S8.out.2)).mono ?_
          rintro e w9 ⟨rfl, a1, a2⟩
          rw [← e9] at a1
          have L9 := Lib.hid (a1.swap.mono (A' := fun i => i < w0.heap.size) (fun i _ h => .inl h))
          have H9 := Lib.hid (H8.out.trans (a2.below H8.out.size (fun i h => Nat.le_of_not_lt (fun h2 => h (.inl h2)))))
          have hj' : j + 1 ≤ 20 ∧ j + 1 ≤ len := by have := K5.out; omega
          clear a1 a2 L8 H8 S8 e9
          go_wp2_with fail
          go_roundw
          case rel => exact ⟨j + 1, rfl, hj'.1, hj'.2, L9, H9⟩
          case measure => simp [intOf]; omega
        · have q3 : True := trivial
          have q4 : True := trivial
          have L8 := L7
          have H8 := H7
          have S8 : Hid (gm < w7.heap.size ∧ gx < w7.heap.size) := Lib.hid ⟨M7.out.lt, X7.out.lt⟩
          clear L7 H7 M7 X7
          have e9 : mP n sc e0 e1 txB (j + 1) = mP n sc e0 e1 txB j ++ sendL 1000 j sc 0 0 1 (txB j) := by
            rw [mP]; unfold xa xb; rw [HIN.out, show decide (0 ≤ e0 j ∧ e0 j < n ∧ 0 ≤ e1 j ∧ e1 j < n) = false from by simp; omega]; simp
          refine (lp_send (fun i => i < w0.heap.size ∨ i = gm ∨ i = gx) lb 1000 j sc (mP n sc e0 e1 txB j) la n (j + 1) sc (mL n sc e0 e1 txB (j + 1)) 0 0 1 (txB j) _ L8.out.swap (by have := K5.out; omega) (by have := K5.out; have := mP_len n sc e0 e1 txB j; omega) HF.out (by rintro i (h | rfl | rfl); exact Nat.lt_of_lt_of_le h H8.out.size; exact S8.out.1; exact S8.out.2)).mono ?_
          rintro e w9 ⟨rfl, a1, a2⟩
          rw [← e9] at a1
          have L9 := Lib.hid (a1.swap.mono (A' := fun i => i < w0.heap.size) (fun i _ h => .inl h))
          have H9 := Lib.hid (H8.out.trans (a2.below H8.out.size (fun i h => Nat.le_of_not_lt (fun h2 => h (.inl h2)))))
          have hj' : j + 1 ≤ 20 ∧ j + 1 ≤ len := by have := K5.out; omega
          clear a1 a2 L8 H8 S8 e9
          go_wp2_with fail
          go_roundw
          case rel => exact ⟨j + 1, rfl, hj'.1, hj'.2, L9, H9⟩
          case measure => simp [intOf]; omega
        · have q4 : True := trivial
          have L8 := L7
          have H8 := H7
          have S8 : Hid (gm < w7.heap.size ∧ gx < w7.heap.size) := Lib.hid ⟨M7.out.lt, X7.out.lt⟩
          clear L7 H7 M7 X7
          have e9 : mP n sc e0 e1 txB (j + 1) = mP n sc e0 e1 txB j ++ sendL 1000 j sc 0 0 1 (txB j) := by
            rw [mP]; unfold xa xb; rw [HIN.out, show decide (0 ≤ e0 j ∧ e0 j < n ∧ 0 ≤ e1 j ∧ e1 j < n) = false from by simp; omega]; simp
          refine (lp_send (fun i => i < w0.heap.size ∨ i = gm ∨ i = gx) lb 1000 j sc (mP n sc e0 e1 txB j) la n (j + 1) sc (mL n sc e0 e1 txB (j + 1)) 0 0 1 (txB j) _ L8.out.swap (by have := K5.out; omega) (by have := K5.out; have := mP_len n sc e0 e1 txB j; omega) HF.out (by rintro i (h | rfl | rfl); exact Nat.lt_of_lt_of_le h H8.out.size; exact S8.out.1; exact S8.out.2)).mono ?_
          rintro e w9 ⟨rfl, a1, a2⟩
          rw [← e9] at a1
          have L9 := Lib.hid (a1.swap.mono (A' := fun i => i < w0.heap.size) (fun i _ h => .inl h))
          have H9 := Lib.hid (H8.out.trans (a2.below H8.out.size (fun i h => Nat.le_of_not_lt (fun h2 => h (.inl h2)))))
          have hj' : j + 1 ≤ 20 ∧ j + 1 ≤ len := by have := K5.out; omega
          clear a1 a2 L8 H8 S8 e9
          go_wp2_with fail
          go_roundw
          case rel => exact ⟨j + 1, rfl, hj'.1, hj'.2, L9, H9⟩
          case measure => simp [intOf]; omega
        · have L8 := L7
          have H8 := H7
          have S8 : Hid (gm < w7.heap.size ∧ gx < w7.heap.size) := Lib.hid ⟨M7.out.lt, X7.out.lt⟩
          clear L7 H7 M7 X7
          have e9 : mP n sc e0 e1 txB (j + 1) = mP n sc e0 e1 txB j ++ sendL 1000 j sc 0 0 1 (txB j) := by
            rw [mP]; unfold xa xb; rw [HIN.out, show decide (0 ≤ e0 j ∧ e0 j < n ∧ 0 ≤ e1 j ∧ e1 j < n) = false from by simp; omega]; simp
          refine (lp_send (fun i => i < w0.heap.size ∨ i = gm ∨ i = gx) lb 1000 j sc (mP n sc e0 e1 txB j) la n (j + 1) sc (mL n sc e0 e1 txB (j + 1)) 0 0 1 (txB j) _ L8.out.swap (by have := K5.out; omega) (by have := K5.out; have := mP_len n sc e0 e1 txB j; omega) HF.out (by rintro i (h | rfl | rfl); exact Nat.lt_of_lt_of_le h H8.out.size; exact S8.out.1; exact S8.out.2)).mono ?_
          rintro e w9 ⟨rfl, a1, a2⟩
          rw [← e9] at a1
          have L9 := Lib.hid (a1.swap.mono (A' := fun i => i < w0.heap.size) (fun i _ h => .inl h))
          have H9 := Lib.hid (H8.out.trans (a2.below H8.out.size (fun i h => Nat.le_of_not_lt (fun h2 => h (.inl h2)))))
          have hj' : j + 1 ≤ 20 ∧ j + 1 ≤ len := by have := K5.out; omega
          clear a1 a2 L8 H8 S8 e9
          go_wp2_with fail
          go_roundw
          case rel => exact ⟨j + 1, rfl, hj'.1, hj'.2, L9, H9⟩
          case measure => simp [intOf]; omega
        · have L8 : Hid (LP (((w7.setCell ⟨gx, 0, none⟩ (.int .i64 999)).setCell ⟨gx, 1, none⟩ (.int .i64 999)).setCell ⟨gx, 2, none⟩ (.string (txB j))) (fun i => i < w0.heap.size ∨ i = gm ∨ i = gx) la n (j + 1) sc (mL n sc e0 e1 txB (j + 1)) lb 1000 j sc (mP n sc e0 e1 txB j)) := Lib.hid (L7.out.touch (touch3 w7 gx 0 1 2 (.int .i64 999) (.int .i64 999) (.string (txB j))) (fun i h1 h2 e => h1 (.inr (.inr e))))
          have H8 := Lib.hid (H7.out.trans ((touch3 w7 gx 0 1 2 (.int .i64 999) (.int .i64 999) (.string (txB j))).below H7.out.size (fun i e => by rw [e]; exact GX.out)))
          have S8 : Hid (gm < (((w7.setCell ⟨gx, 0, none⟩ (.int .i64 999)).setCell ⟨gx, 1, none⟩ (.int .i64 999)).setCell ⟨gx, 2, none⟩ (.string (txB j))).heap.size ∧ gx < (((w7.setCell ⟨gx, 0, none⟩ (.int .i64 999)).setCell ⟨gx, 1, none⟩ (.int .i64 999)).setCell ⟨gx, 2, none⟩ (.string (txB j))).heap.size) := Lib.hid ⟨Nat.lt_of_lt_of_le M7.out.lt (touch3 w7 gx 0 1 2 (.int .i64 999) (.int .i64 999) (.string (txB j))).size, Nat.lt_of_lt_of_le X7.out.lt (touch3 w7 gx 0 1 2 (.int .i64 999) (.int .i64 999) (.string (txB j))).size⟩
          clear L7 H7 M7 X7
          have e9 : mP n sc e0 e1 txB (j + 1) = mP n sc e0 e1 txB j ++ sendL 1000 j sc 0 999 999 (txB j) := by
            rw [mP]; unfold xa xb; rw [HIN.out, show decide (0 ≤ e0 j ∧ e0 j < n ∧ 0 ≤ e1 j ∧ e1 j < n) = true from by simp; omega]; simp
          refine (lp_send (fun i => i < w0.heap.size ∨ i = gm ∨ i = gx) lb 1000 j sc (mP n sc e0 e1 txB j) la n (j + 1) sc (mL n sc e0 e1 txB (j + 1)) 0 999 999 (txB j) _ L8.out.swap (by have := K5.out; omega) (by have := K5.out; have := mP_len n sc e0 e1 txB j; omega) HF.out (by rintro i (h | rfl | rfl); exact Nat.lt_of_lt_of_le h H8.out.size; exact S8.out.1; exact S8.out.2)).mono ?_
          rintro e w9 ⟨rfl, a1, a2⟩
          rw [← e9] at a1
          have L9 := Lib.hid (a1.swap.mono (A' := fun i => i < w0.heap.size) (fun i _ h => .inl h))
          have H9 := Lib.hid (H8.out.trans (a2.below H8.out.size (fun i h => Nat.le_of_not_lt (fun h2 => h (.inl h2)))))
          have hj' : j + 1 ≤ 20 ∧ j + 1 ≤ len := by have := K5.out; omega
          clear a1 a2 L8 H8 S8 e9
          go_wp2_with fail
          go_roundw
          case rel => exact ⟨j + 1, rfl, hj'.1, hj'.2, L9, H9⟩
          case measure => simp [intOf]; omega
    · have hx : (¬ j < len) ∨ (j < len ∧ ¬ j < 20) := by omega
      have LX : Hid (LP wr (fun i => i < w0.heap.size ∨ (Value.slice none 0 0).ownBlock = some i) la n j sc (mL n sc e0 e1 txB j) lb 1000 j sc (mP n sc e0 e1 txB j)) := Lib.hid (L.out.mono (by rintro i hi (h | h); exact h; cases h))
      have R0 := Lib.hid (RN_sent n sc e0 e1 txB j)
      have M0 : Hid (∀ z, z ∈ mL n sc e0 e1 txB j → ∃ i, i < j ∧ z.src = e0 i ∧ z.dst = e1 i ∧ z.txt = txB i) := Lib.hid (fun z hz => mL_mem hz)
      have C0 : Hid ((mP n sc e0 e1 txB j).length ≤ 180) := Lib.hid (by have := mP_len n sc e0 e1 txB j; omega)
      clear L hc
      generalize mL n sc e0 e1 txB j = a0 at *
      generalize mP n sc e0 e1 txB j = b0 at *
      obtain ⟨C, hC⟩ : ∃ C, C = b0.length := ⟨_, rfl⟩
      have C1 : Hid (C ≤ 180) := Lib.hid (by rw [hC]; exact C0.out)
      have HC := Lib.hid hC
      clear hC C0
      rcases hx with q | ⟨q, q2⟩
      all_goals
        (try have ed : decide (j < len) = false := by simpa using q)
        (try have ed : decide (j < len) = true := by simpa using q)
        (try have ed2 : decide ((j : Int) < 20) = false := by simpa using q2)
        go_wp2_with fail
        (try clear ed)
        (try clear ed2)
        go_loopw [11, 15] (fun v i wr => ∃ (k : Nat) (a b : List Wt) (ws : List Wt), i = .int .i64 k ∧ Hid (k + b.length = C) ∧ Hid (RN e0 e1 a b) ∧ Hid (∀ z, z ∈ a → ∃ i, i < j ∧ z.src = e0 i ∧ z.dst = e1 i ∧ z.txt = txB i) ∧ Hid (∀ z, z ∈ ws → ∃ i, i < j ∧ z.src = e0 i ∧ z.dst = e1 i ∧ z.txt = txB i) ∧ Hid (wr.ownsRow 0 31 3 v ws.length (flat3 ws)) ∧ Hid (LP wr (fun i => i < w0.heap.size ∨ v.ownBlock = some i) la n j sc a lb 1000 j sc b) ∧ Hid (Below w0.heap.size w0 wr) ∧ Hid (∀ g, v.ownBlock = some g → w0.heap.size ≤ g) ∧ Hid (ws.length ≤ k)) (fun _ i _ => 200 - (intOf i).toNat)
        case atStart => exact ⟨0, a0, b0, [], rfl, Lib.hid (by rw [HC.out]; omega), R0, M0, Lib.hid (fun z hz => by cases hz), Lib.hid (World.ownsRow_nil wr 0 _ _), LX, H, Lib.hid (fun g h => by cases h), Lib.hid (Nat.le_refl _)⟩
        case round =>
          clear R0 M0 LX H HC
          rename_i wo _
          obtain ⟨k, a, b, ws, rfl, KB, R, MA, MW, O, L, H, B, KW⟩ := hrel
          have hk : k ≤ 180 := by have := KB.out; have := C1.out; omega
          have ed3 : decide ((k : Int) < 200) = true := by simp; omega
          obtain ⟨uo, cap, hv, hvo⟩ : ∃ uo cap, u11 = .slice uo ws.length cap ∧ (0 < ws.length → ∃ g, uo = some ⟨g, 0, none⟩) := by
            rcases O.out.2 with ⟨e, e2⟩ | ⟨g, cap, cur, e, _⟩
            · have : ws.length = 0 := by have h := flat3_length ws; rw [e2] at h; simp at h; omega
              rw [this]
              exact ⟨none, 0, e, fun h => absurd h (by omega)⟩
            · exact ⟨_, cap, e, fun _ => ⟨g, rfl⟩⟩
          subst hv
          have VO := Lib.hid hvo
          clear hvo
          have HA := Lib.hid (And.intro L.out.1.1 L.out.2.1.1)
          go_wp2_with fail
          refine (lp_any _ lb 1000 j sc b la n j sc a _ L.out.swap).mono ?_
          rintro e w5 ⟨rfl, x1, x2⟩
          have Lx := Lib.hid ((x1.mono (A' := fun i => i < w0.heap.size ∨ (Value.slice uo ws.length cap).ownBlock = some i ∨ i = w5.heap.size) (by rintro i hi (h | h | h); exact .inl h; exact .inr h; exact absurd hi (by omega))).quiet (balloc (Below.refl _ w5) (.cells #[.int .i64 (nsrc b), .int .i64 (ndst b), .string (ntxt b)] 31))).swap
          have Hx := Lib.hid (balloc (H.out.trans (x2.below H.out.size (fun i h => Nat.le_of_not_lt (fun h2 => h (.inl h2))))) (.cells #[.int .i64 (nsrc b), .int .i64 (ndst b), .string (ntxt b)] 31))
          have Ox := Lib.hid ((ownsRow_touch O.out x2 (fun i e h => h (.inr e))).alloc (.cells #[.int .i64 (nsrc b), .int .i64 (ndst b), .string (ntxt b)] 31))
          have Xx := Lib.hid (Blk.new w5 #[.int .i64 (nsrc b), .int .i64 (ndst b), .string (ntxt b)] 31 rfl)
          clear x1 x2 L H O
          cases b with
          | nil =>
            have ha : a = [] := RN_nil R.out
            subst ha
            have Ly := Lib.hid (Lx.out.mono (A' := fun i => i < w0.heap.size ∨ (Value.slice uo ws.length cap).ownBlock = some i) (by rintro i hi (h | h); exact .inl h; exact .inr (.inl h)))
            have hw9 : ws.length ≤ 180 := Nat.le_trans KW.out hk
            clear Lx R MA KB Xx KW
            generalize hwn : ws.length = wn at *
            have WN := Lib.hid hwn
            clear hwn
            go_wp2_with fail
            go_loopw [137] (fun i wr => ∃ t : Nat, i = .int .i64 t ∧ t ≤ wn ∧ Hid (wr.ownsRow 0 31 3 (.slice uo wn cap) wn (flat3 ws)) ∧ Hid (LP wr (fun i => i < w0.heap.size ∨ (Value.slice uo wn cap).ownBlock = some i) la n j sc [] lb 1000 j sc []) ∧ Hid (Below w0.heap.size w0 wr)) (fun i _ => wn - (intOf i).toNat)
            case atStart => exact ⟨0, rfl, by omega, Ox, Ly, Hx⟩
            case round =>
              clear Ox Ly Hx
              rename_i wq _
              obtain ⟨t, rfl, ht, O, L, H⟩ := hrel
              by_cases htw : t < wn
              · obtain ⟨g, rfl⟩ := VO.out (by omega)
                have htl : t < ws.length := by rw [WN.out]; exact htw
                obtain ⟨i, hi, s0, s1, s2⟩ := MW.out _ (List.getElem_mem htl)
                have cc : ∀ q, q < 3 → wr.cell? ⟨g, t * 3 + q, none⟩ = (cells3 ws[t])[q]? := by
                  intro q hq
                  have h1 := flat3_get ws t q htl hq
                  have h2 : q < (cells3 ws[t]).length := hq
                  rw [List.getElem?_eq_getElem h2] at h1 ⊢
                  have h3 := O.out.cells (g := g) rfl _ _ h1
                  rwa [cell_add] at h3
                have c0 : wr.cell? ⟨g, t * 3, none⟩ = some (.int .i64 (e0 i)) := by have h := cc 0 (by omega); simpa [cells3, s0] using h
                have c1 : wr.cell? ⟨g, t * 3 + 1, none⟩ = some (.int .i64 (e1 i)) := by have h := cc 1 (by omega); simpa [cells3, s1] using h
                have c2 : wr.cell? ⟨g, t * 3 + 2, none⟩ = some (.string (txB i)) := by have h := cc 2 (by omega); simpa [cells3, s2] using h
                have y0 : (0 : Int) ≤ (t : Int) := by omega
                have y1 : (t : Int) < (wn : Int) := by omega
                have ed4 : decide ((t : Int) < (wn : Int)) = true := by simp; omega
                have L1 := Lib.hid (L.out.quiet (balloc (Below.refl _ wr) (.cells #[.int .i64 (e0 i), .int .i64 (e1 i), .string (txB i)] 31)))
                have H1 := Lib.hid (balloc H.out (.cells #[.int .i64 (e0 i), .int .i64 (e1 i), .string (txB i)] 31))
                have O1 := Lib.hid (O.out.alloc (.cells #[.int .i64 (e0 i), .int .i64 (e1 i), .string (txB i)] 31))
                have X1 := Lib.hid (Blk.new wr #[.int .i64 (e0 i), .int .i64 (e1 i), .string (txB i)] 31 rfl)
                have il : i < 20 := by omega
                have ix : ∀ w, (Instr.index 9 (.string (txB i)) (.int .i64 0)).run Try.prog w = .ok (.int .u8 (i : Int)) w := ixB i il
                obtain ⟨ad, rfl, hab, t0, t1⟩ := V.out i (by omega)
                have hbk : ∀ q, (ad.add q).block = ad.block := fun q => by unfold Addr.add; split <;> rfl
                have t1' : w0.cell? ⟨(ad.add (i * 2)).block, (ad.add (i * 2)).off + 1, none⟩ = some (.int .i64 (e1 i)) := by rw [← add_field _ _ 1 (by omega)]; exact t1
                have TT := Lib.hid (And.intro (show (ad.add (i * 2)).block < w0.heap.size by rw [hbk]; exact hab) (And.intro t0 t1'))
                have HI := Lib.hid (And.intro hi il)
                clear hab t0 t1 t1' hbk
                clear s0 s1 s2 cc O L H htl
                go_upto_region 28 with fail
                clear c0 c1 c2
                generalize hw6 : wr.alloc (.cells #[.int .i64 (e0 i), .int .i64 (e1 i), .string (txB i)] 31) = w6 at *
                obtain ⟨gx, hgx⟩ : ∃ gx, gx = wr.heap.size := ⟨_, rfl⟩
                rw [← hgx] at X1 ⊢
                clear hw6 hgx
                have c0 : w6.cell? ⟨gx, 0, none⟩ = some (.int .i64 (e0 i)) := X1.out.cell 0
                have c1 : w6.cell? ⟨gx, 1, none⟩ = some (.int .i64 (e1 i)) := X1.out.cell 1
                have c2 : w6.cell? ⟨gx, 2, none⟩ = some (.string (txB i)) := X1.out.cell 2
                have u3 : IntKind.i64.wrap (i : Int) = (i : Int) := IntWalk.i64_in _ (by omega)
                go_upto_region 29 with fail
                clear c2 u3 ix
                have p0 : w6.cell? (ad.add (i * 2)) = some (.int .i64 (e0 i)) := (H1.out.cell TT.out.1).trans TT.out.2.1
                have p1 : w6.cell? ⟨(ad.add (i * 2)).block, (ad.add (i * 2)).off + 1, none⟩ = some (.int .i64 (e1 i)) := (H1.out.cell (p := ⟨(ad.add (i * 2)).block, (ad.add (i * 2)).off + 1, none⟩) TT.out.1).trans TT.out.2.2
                have q0 : (0 : Int) ≤ (i : Int) := by omega
                have q1 : (i : Int) < (len : Int) := by omega
                have d0 : (e0 i != e0 i) = false := by simp
                have d1 : (e1 i != e1 i) = false := by simp
                go_quiet (fail)
                have L2 := Lib.hid (L1.out.quiet (bdrewN (Below.refl _ w6) nq))
                have H2 := Lib.hid (bdrewN H1.out nq)
                have O2 : Hid ((w6.drewN nq).ownsRow 0 31 3 (.slice (some ⟨g, 0, none⟩) wn cap) wn (flat3 ws)) := Lib.hid O1.out
                clear p0 p1 c0 c1 L1 H1 O1 X1
                go_wp2_with fail
                go_roundw
                case rel => exact ⟨t + 1, rfl, htw, O2, L2, H2⟩
                case measure => simp [intOf]; omega
              · obtain rfl : t = wn := by omega
                have ed4 : decide ((t : Int) < (t : Int)) = false := by simp
                go_wp2_with fail
                refine (lp_none _ la n j sc lb 1000 j sc [] _ L.out).mono ?_
                rintro e w9 ⟨rfl, x1, x2⟩
                have H9 := Lib.hid (balloc (bthen' H.out x2) (.cells #[.int .i64 0, .int .i64 0, .string ⟨#[]⟩] 31))
                clear x1 x2 L O H
                go_wp2_with fail
                go_ret
                exact ⟨rfl, H9.out⟩
          | cons z0 bs =>
            obtain ⟨bb, hbb⟩ : ∃ bb, bb = z0 :: bs := ⟨_, rfl⟩
            have hemp : bb.isEmpty = false := by rw [hbb]; rfl
            have hne : bb ≠ [] := by rw [hbb]; simp
            rw [← hbb] at Lx Hx Ox Xx KB R HA ⊢
            have e1' : nsrc bb = (best bb).src := by simp [nsrc, hemp]
            have e2' : ntxt bb = (best bb).txt := by simp [ntxt, hemp]
            have e3' : ndue bb = (best bb).due := by simp [ndue, hemp]
            have e4' : nrest bb = bb.erase (best bb) := by simp [nrest, hemp]
            have hlen : (nrest bb).length + 1 = bb.length := by
              rw [e4', List.length_erase_of_mem (best_mem hne)]
              have := List.length_pos_iff.2 hne
              omega
            have KB2 : Hid (k + 1 + (nrest bb).length = C) := Lib.hid (by have := KB.out; omega)
            have KW2 : Hid (ws.length ≤ k + 1) := Lib.hid (Nat.le_succ_of_le KW.out)
            have KW3 : Hid (ws.length + 1 ≤ k + 1) := Lib.hid (Nat.succ_le_succ KW.out)
            have E := Lib.hid (And.intro e1' (And.intro e2' (And.intro e3' e4')))
            have HE := Lib.hid hne
            clear hbb e2' e3' e4' hlen KB KW
            by_cases h9 : nsrc bb = 999
            · have d9 : (nsrc bb == 999) = true := by simpa using h9
              obtain ⟨r1, r2, r3⟩ := RN_yes R.out HA.out.1 HA.out.2 HE.out (e1' ▸ h9)
              have ae : a.isEmpty = false := by
                cases a with
                | nil => exact absurd rfl r1
                | cons => rfl
              have a1' : nsrc a = (best a).src := by simp [nsrc, ae]
              have a2' : ndst a = (best a).dst := by simp [ndst, ae]
              have a3' : ntxt a = ntxt bb := by rw [E.out.2.1]; simp [ntxt, ae]; rw [r2]; rfl
              have a4' : ndue a = ndue bb := by rw [E.out.2.2.1]; simp [ndue, ae]; rw [r2]; rfl
              have a5' : nrest a = a.erase (best a) := by simp [nrest, ae]
              have R2 : Hid (RN e0 e1 (nrest a) (nrest bb)) := Lib.hid (by rw [a5', E.out.2.2.2]; exact r3)
              have MA2 : Hid (∀ z, z ∈ nrest a → ∃ i, i < j ∧ z.src = e0 i ∧ z.dst = e1 i ∧ z.txt = txB i) := Lib.hid (fun z hz => MA.out z (List.mem_of_mem_erase (by rw [← a5']; exact hz)))
              obtain ⟨nz, hnz⟩ : ∃ nz : Wt, nz = ⟨nsrc a, ndst a, ntxt bb, 0, 0⟩ := ⟨_, rfl⟩
              have MW2 : Hid (∀ z, z ∈ ws ++ [nz] → ∃ i, i < j ∧ z.src = e0 i ∧ z.dst = e1 i ∧ z.txt = txB i) := Lib.hid (by
                intro z hz
                rcases List.mem_append.1 hz with h | h
                · exact MW.out z h
                · obtain rfl := List.mem_singleton.1 h
                  obtain ⟨i, g1, g2, g3, g4⟩ := MA.out _ (best_mem r1)
                  refine ⟨i, g1, ?_, ?_, ?_⟩
                  · rw [hnz, ← g2]; exact a1'
                  · rw [hnz, ← g3]; exact a2'
                  · rw [hnz, ← g4]
                    show ntxt bb = (best a).txt
                    rw [← a3']; simp [ntxt, ae])
              have EA := Lib.hid (And.intro ae (And.intro a3' a4'))
              have HNZ := Lib.hid hnz
              have c0 : (w5.alloc (.cells #[.int .i64 (nsrc bb), .int .i64 (ndst bb), .string (ntxt bb)] 31)).cell? ⟨w5.heap.size, 0, none⟩ = some (.int .i64 (nsrc bb)) := Xx.out.cell 0
              clear h9 R MA MW e1' a1' a2' a5' r1 r2 r3 hne hnz HA ae a3' a4'
              go_wp2_with fail
              generalize hw6 : w5.alloc (.cells #[.int .i64 (nsrc bb), .int .i64 (ndst bb), .string (ntxt bb)] 31) = w6 at *
              obtain ⟨g5, hg5⟩ : ∃ g5, g5 = w5.heap.size := ⟨_, rfl⟩
              rw [← hg5] at Lx Xx ⊢
              clear hw6 hg5 c0
              refine (lp_any _ la n j sc a lb 1000 j sc (nrest bb) _ Lx.out).mono ?_
              rintro e w7 ⟨rfl, x1, x2⟩
              rw [EA.out.1, EA.out.2.1, EA.out.2.2]
              have L7 := Lib.hid (x1.quiet (balloc (Below.refl _ w7) (.cells #[.int .i64 (nsrc a), .int .i64 (ndst a), .string (ntxt bb)] 31)))
              have H7 := Lib.hid (balloc (Hx.out.trans (x2.below Hx.out.size (fun i h => Nat.le_of_not_lt (fun h2 => h (.inl h2))))) (.cells #[.int .i64 (nsrc a), .int .i64 (ndst a), .string (ntxt bb)] 31))
              have O7 := Lib.hid ((ownsRow_touch Ox.out x2 (fun i e h => h (.inr (.inl e)))).alloc (.cells #[.int .i64 (nsrc a), .int .i64 (ndst a), .string (ntxt bb)] 31))
              have X7 := Lib.hid ((x2.blk Xx.out (fun h => h (.inr (.inr rfl)))).alloc (.cells #[.int .i64 (nsrc a), .int .i64 (ndst a), .string (ntxt bb)] 31))
              have D7 := Lib.hid (Blk.new w7 #[.int .i64 (nsrc a), .int .i64 (ndst a), .string (ntxt bb)] 31 rfl)
              clear x1 x2 Lx Hx Ox Xx
              go_upto_region 22 with fail
              generalize hw8 : w7.alloc (.cells #[.int .i64 (nsrc a), .int .i64 (ndst a), .string (ntxt bb)] 31) = w8 at *
              obtain ⟨g7, hg7⟩ : ∃ g7, g7 = w7.heap.size := ⟨_, rfl⟩
              rw [← hg7] at D7 ⊢
              clear hw8 hg7
              have c0 : w8.cell? ⟨g5, 2, none⟩ = some (.string (ntxt bb)) := X7.out.cell 2
              have q0 : w8.cell? ⟨g7, 0, none⟩ = some (.int .i64 (nsrc a)) := D7.out.cell 0
              have q1 : w8.cell? ⟨g7, 1, none⟩ = some (.int .i64 (ndst a)) := D7.out.cell 1
              have q2 : w8.cell? ⟨g7, 2, none⟩ = some (.string (ntxt bb)) := D7.out.cell 2
              have Gb := Blk.new w8 #[.int .i64 (nsrc a), .int .i64 (ndst a), .string (ntxt bb)] 31 rfl
              have O8 := O7.out.alloc (.cells #[.int .i64 (nsrc a), .int .i64 (ndst a), .string (ntxt bb)] 31)
              obtain ⟨vv, w9, hr, o1, o2, o3⟩ := append_fresh (P := Try.prog) (w8.alloc (.cells #[.int .i64 (nsrc a), .int .i64 (ndst a), .string (ntxt bb)] 31)) Try.underlying51 infoM rfl (by decide) _ ws.length (flat3 ws) O8 [.int .i64 (nsrc a), .int .i64 (ndst a), .string (ntxt bb)] rfl w8.heap.size Gb (by intro u hu; simp at hu; rcases hu with rfl | rfl | rfl <;> rfl) (by have := KW2.out; omega) (by decide)
              have hsz : w8.heap.size + 1 = (w8.alloc (.cells #[.int .i64 (nsrc a), .int .i64 (ndst a), .string (ntxt bb)] 31)).heap.size := by simp
              go_wp2_with (at_builtin; refine wpList_append_run rfl _ _ 51 rfl _ _ _ rfl rfl hr ?_)
              have eI : flat3 ws ++ [.int .i64 (nsrc a), .int .i64 (ndst a), .string (ntxt bb)] = flat3 (ws ++ [nz]) := by rw [HNZ.out]; simp [flat3, cells3]
              rw [eI] at o1
              have O9 : Hid (w9.ownsRow 0 31 3 vv (ws ++ [nz]).length (flat3 (ws ++ [nz]))) := Lib.hid (by rw [List.length_append, List.length_singleton]; exact o1)
              have L0 := L7.out.quiet (balloc (Below.refl _ w8) (.cells #[.int .i64 (nsrc a), .int .i64 (ndst a), .string (ntxt bb)] 31))
              have L2 := L0.mono (A' := fun i => (i < w0.heap.size ∨ vv.ownBlock = some i) ∨ (Value.slice uo ws.length cap).ownBlock = some i) (by
                rintro i hi ((h | h) | h)
                · exact .inl h
                · rcases o3 with e | ⟨g', e, e2⟩
                  · exact .inr (.inl (e ▸ h))
                  · rw [h] at e; cases e; exact absurd hi (by omega)
                · exact .inr (.inl h))
              have L9 := Lib.hid ((L2.touch (Touch.of_grownBy o2) (fun i h1 h2 h3 => h1 (.inr h3))).mono (A' := fun i => i < w0.heap.size ∨ vv.ownBlock = some i) (fun i _ h => .inl h))
              have B9 : Hid (∀ g, vv.ownBlock = some g → w0.heap.size ≤ g) := Lib.hid (by
                intro g h
                rcases o3 with e | ⟨g', e, e2⟩
                · exact B.out g (e ▸ h)
                · rw [h] at e; cases e
                  have := H7.out.size
                  omega)
              have H9 := Lib.hid ((balloc H7.out (.cells #[.int .i64 (nsrc a), .int .i64 (ndst a), .string (ntxt bb)] 31)).trans ((Touch.of_grownBy o2).below (Nat.le_trans H7.out.size (by rw [← hsz]; omega)) (fun i h => B.out i h)))
              have KW9 : Hid ((ws ++ [nz]).length ≤ k + 1) := Lib.hid (by rw [List.length_append, List.length_singleton]; exact KW3.out)
              clear L0 L2 o1 o2 o3 O8 Gb hr eI hsz c0 q0 q1 q2 O7 L7 H7 X7 D7 KW2 KW3
              go_roundw
              case rel => exact ⟨k + 1, nrest a, nrest bb, ws ++ [nz], rfl, KB2, R2, MA2, MW2, O9, L9, H9, B9, KW9⟩
              case measure => simp [intOf]; omega
            · have d9 : (nsrc bb == 999) = false := by simpa using h9
              have R2 : Hid (RN e0 e1 a (nrest bb)) := Lib.hid (by rw [E.out.2.2.2]; exact RN_no R.out (fun h => h9 (e1'.trans h)))
              have L2 := Lib.hid (Lx.out.mono (A' := fun i => i < w0.heap.size ∨ (Value.slice uo ws.length cap).ownBlock = some i) (by rintro i hi (h | h); exact .inl h; exact .inr (.inl h)))
              have c0 : (w5.alloc (.cells #[.int .i64 (nsrc bb), .int .i64 (ndst bb), .string (ntxt bb)] 31)).cell? ⟨w5.heap.size, 0, none⟩ = some (.int .i64 (nsrc bb)) := Xx.out.cell 0
              clear h9 R Lx Xx e1' hne
              go_wp2_with fail
              go_roundw
              case rel => exact ⟨k + 1, a, nrest bb, ws, rfl, KB2, R2, MA, MW, Ox, L2, Hx, B, KW2⟩
              case measure => simp [intOf]; omega

end Go.Proofs.Ytemcbaacefjfnaa
