/- The walk of LinesAlone. -/
import Derived.Test.YtemcbaacefjfnaaLnQ
import Derived.Test.YtemcbaacefjfnaaLnAlP
set_option linter.unusedVariables false
set_option linter.unusedSimpArgs false
namespace Go.Proofs.Ytemcbaacefjfnaa
open Go.RowKit Go.Proofs.YtemcbaacefjfnaaW.PrintWords Go.Proofs.YtemcbaacefjfnaaW.PrintLast

theorem infoI : (Try.prog.info? 3).map (fun i => (i.zero, i.size, i.bytes)) = some (some (.int .i64 0), 1, 8) := by kernel_rfl
def txB (k : Nat) : ByteArray := ⟨#[UInt8.ofNat k]⟩
def ints (n : Nat) (f : Nat → Int) : List Value := (List.range n).map fun k => .int .i64 (f k)
theorem ints_cell {w : World} {g cap n k : Nat} {f : Nat → Int} (h : w.ownsRow 0 3 1 (.slice (some ⟨g, 0, none⟩) n cap) n (ints n f)) (hk : k < n) : w.cell? ⟨g, k, none⟩ = some (.int .i64 (f k)) := by
  have h2 := h.cells (g := g) rfl k (.int .i64 (f k)) (by simp [ints, hk])
  rwa [cell_add] at h2
theorem conv_one (k gb : Nat) (w : World) (hk : k < 256) (hc : w.cell? ⟨gb, 0, none⟩ = some (.int .u8 (k : Int))) : (convert 40 9 (.slice (some ⟨gb, 0, none⟩) 1 1)).run Try.prog w = .ok (.string (txB k)) w := by
  refine run_convert_bytes_back w 40 9 5 ⟨gb, 0, none⟩ 1 [UInt8.ofNat k] Try.underlying40 Try.underlying5 Try.underlying9 ?_
  intro j hj
  obtain rfl : j = 0 := by simpa using hj
  rw [cell_add, hc]
  simp [Nat.mod_eq_of_lt hk]
theorem ownsRow_touch {w w' : World} {base : Nat} {e size n : Nat} {v : Value} {xs : List Value} {t : Nat → Prop} (h : w.ownsRow base e size v n xs) (k : Touch w w' t) (ht : ∀ g, v.ownBlock = some g → ¬ t g) : w'.ownsRow base e size v n xs := by
  obtain ⟨hl, hO⟩ := h
  refine ⟨hl, ?_⟩
  rcases hO with e | ⟨g, cap, cur, rfl, hb, hg, r⟩
  · exact .inl e
  · exact .inr ⟨g, cap, cur, rfl, hb, k.blk hg (ht g rfl), r⟩
theorem alM_length (k : Nat) (f : Nat → Int) (tx : Nat → ByteArray) : (alM k f tx).length = k := by simp [alM]
theorem alM_send {k : Nat} {f : Nat → Int} {tx : Nat → ByteArray} (h0 : 0 ≤ f k) (h1 : f k < 5) : alM k f tx ++ sendL 2 k [] (f k) 0 1 (tx k) = alM (k + 1) f tx := by
  have e : tbAt [] k = ⟨false, 1, 0⟩ := rfl
  have n0 : nodeB 2 0 = true := rfl
  have n1 : nodeB 2 1 = true := rfl
  have c : copiesOf ⟨false, 1, 0⟩ = 1 := rfl
  have d : firstOf ⟨false, 1, 0⟩ (f k) = f k := by show clampI (f k) 0 1048576 + clampI 0 0 1048576 = f k; unfold clampI; omega
  unfold alM sendL
  rw [List.range_succ, List.map_append, e, n0, n1, c, d]
  simp
def lnAlone.T8 : Bool × List (List Nat × List Nat) := (true, [([], []), ([], []), ([], []), ([1, 2], [1, 2]), ([3], [3]), ([], []), ([5], [5]), ([6], [6]), ([7], [7]), ([8], [8]), ([0, 4, 9, 9], [0, 4, 9])])
def lnAlone.B8 : List Nat := [0, 0, 0, 6, 14, 0, 32, 96, 224, 480, 1023]
theorem lnAlone.tab8 : rtab .any (opsOf Try.f5 8) = lnAlone.T8 := by kernel_rfl
theorem lnAlone.bits8 : waitsOk lnAlone.T8.2 lnAlone.B8 = true := by kernel_rfl

set_option maxRecDepth 100000 in
set_option maxHeartbeats 4000000 in
theorem linesAlone_walk (ao : Option Addr) (len c : Nat) (z : Nat → Int) (w0 : World) (hV : ∀ i, i < len → ∃ a, ao = some a ∧ a.block < w0.heap.size ∧ w0.cell? (a.add i) = some (.int .i64 (z i))) (hl : len ≤ maxLen) :
    Calls Try.prog 5 #[.slice ao len c] w0 fun e w' => e = .returned (.bool true) ∧ Below w0.heap.size w0 w' := by
  have V := Lib.hid hV
  clear hV
  go_enter Try.func5, Try.ntmps5
  go_wp2_with fail
  refine (sanity_any _).mono ?_
  rintro e w1 ⟨rfl, b1⟩
  go_wp2_with fail
  refine (lw_new 2 _ [] w1 (.inl ⟨rfl, rfl⟩) (by simp)).mono ?_
  rintro e w2 ⟨l, rfl, a1, a2⟩
  obtain ⟨f, hf⟩ : ∃ f : Nat → Int, f = fun i => z i % 5 := ⟨_, rfl⟩
  have L1 : Hid (LW w2 (fun i => i < w0.heap.size ∨ (Value.slice none 0 0).ownBlock = some i) l 2 0 [] (alM 0 f txB)) := Lib.hid (a1.mono (by
    rintro i hi (h | h)
    · exact Nat.lt_of_lt_of_le h b1.size
    · cases h))
  have H1 := Lib.hid (bthen' b1 a2)
  have HF := Lib.hid hf
  clear a1 a2 b1 hf
  go_wp2_with fail
  go_loopw [5, 6] (fun v i wr => ∃ k : Nat, i = .int .i64 k ∧ k ≤ 40 ∧ k ≤ len ∧ Hid (wr.ownsRow 0 3 1 v k (ints k f)) ∧ Hid (LW wr (fun i => i < w0.heap.size ∨ v.ownBlock = some i) l 2 k [] (alM k f txB)) ∧ Hid (Below w0.heap.size w0 wr) ∧ Hid (∀ g, v.ownBlock = some g → w0.heap.size ≤ g)) (fun _ i _ => 40 - (intOf i).toNat)
  case atStart => exact ⟨0, rfl, by omega, by omega, Lib.hid (World.ownsRow_nil w2 0 _ _), L1, H1, Lib.hid (fun g h => by cases h)⟩
  case round =>
    clear L1 H1
    obtain ⟨k, rfl, hk, hkl, O, L, H, B⟩ := hrel
    by_cases hc : k < len ∧ k < 40
    · obtain ⟨h1, h2⟩ := hc
      obtain ⟨a, rfl, hab, hac⟩ := V.out k h1
      have t0 : wr.cell? (a.add k) = some (.int .i64 (z k)) := by
        rw [← hac]
        have hb : (a.add k).block = a.block := by unfold Addr.add; split <;> rfl
        exact H.out.cell (by rw [hb]; exact hab)
      have e5 : z k % 5 = f k := by rw [HF.out]
      have HM := Aside0.mk (show 0 ≤ f k by rw [HF.out]; exact Int.emod_nonneg _ (by decide))
      have HM2 := Aside0.mk (show f k < 5 by rw [HF.out]; exact Int.emod_lt_of_pos _ (by decide))
      clear hac hab
      go_wp2_with fail
      refine (rmod_any _ _ _ (by decide) (by decide)).mono ?_
      rintro e w' ⟨rfl, rfl⟩
      rw [e5]
      have Gb := Blk.new wr #[.int .i64 (f k)] 3 rfl
      have O1 := O.out.alloc (.cells #[.int .i64 (f k)] 3)
      obtain ⟨vv, w3, hr, o1, o2, o3⟩ := append_fresh (P := Try.prog) (wr.alloc (.cells #[.int .i64 (f k)] 3)) Try.underlying37 infoI rfl (by decide) u5 k (ints k f) O1 [.int .i64 (f k)] rfl wr.heap.size Gb (by simp [Value.oneCell']) (by omega) (by decide)
      go_wp2_with (at_builtin; refine wpList_append_run rfl _ _ 37 rfl _ _ _ rfl rfl hr ?_)
      have hsz : wr.heap.size + 1 = (wr.alloc (.cells #[.int .i64 (f k)] 3)).heap.size := by simp
      obtain ⟨g, cap, rfl⟩ : ∃ g cap, vv = .slice (some ⟨g, 0, none⟩) (k + 1) cap := by
        rcases o1.2 with ⟨_, h⟩ | ⟨g, cap, cur, rfl, _⟩
        · omega
        · exact ⟨g, cap, rfl⟩
      have eI : ints k f ++ [.int .i64 (f k)] = ints (k + 1) f := by unfold ints; rw [List.range_succ, List.map_append]; rfl
      rw [eI] at o1
      have L0 := L.out.quiet (balloc (Below.refl _ wr) (.cells #[.int .i64 (f k)] 3))
      have L2 := L0.mono (A' := fun i => (i < w0.heap.size ∨ some g = some i) ∨ u5.ownBlock = some i) (by
        rintro i hi ((h | h) | h)
        · exact .inl h
        · rcases o3 with e | ⟨g', e, e2⟩
          · exact .inr (e ▸ h)
          · rw [show (Value.slice (some ⟨g, 0, none⟩) (k + 1) cap).ownBlock = some g from rfl, h] at e; cases e; simp at e2 hi; omega
        · exact .inr h)
      have L3 := Lib.hid ((L2.touch (Touch.of_grownBy o2) (fun i h1 h2 h3 => h1 (.inr h3))).mono (A' := fun i => i < w0.heap.size ∨ some g = some i) (fun i _ h => .inl h))
      have B3 := Lib.hid (show w0.heap.size ≤ g by
        rcases o3 with e | ⟨g', e, e2⟩
        · exact B.out g e.symm
        · have hs := H.out.size
          cases e; simp at e2; omega)
      have H3 := Lib.hid ((balloc H.out (.cells #[.int .i64 (f k)] 3)).trans ((Touch.of_grownBy o2).below (Nat.le_trans H.out.size (by rw [← hsz]; omega)) (fun i h => B.out i h)))
      have O3 := Lib.hid o1
      clear L0 L2 o1 o2 o3 O1 Gb hr eI hsz t0 O L H B e5
      have z0 := Aside0.mk (show (0 : Int) ≤ (k : Int) by omega)
      have z1 := Aside0.mk (show (k : Int) < 40 by omega)
      generalize w3 = wr' at *
      go_wp2_with fail
      refine start_ (n := 11) (S := fun w' => True) (ds := []) #[false, false, false, false, false, false, false, false, false, false, false] (by kernel_rfl) rfl rfl trivial (fun hHeld => ?_)
      refine with_tabW lnAlone.tab8 lnAlone.bits8 (fun HT_ HW_ => ?_)
      have L : Aside0 (LW wr'.drew (fun i => i < w0.heap.size ∨ some g = some i) l 2 k [] (alM k f txB)) := ⟨L3.out.quiet (bdrew (Below.refl _ wr'))⟩
      have O : Aside0 (wr'.drew.ownsRow 0 3 1 (.slice (some ⟨g, 0, none⟩) (k + 1) cap) (k + 1) (ints (k + 1) f)) := ⟨O3.out⟩
      have H : Aside0 (Below w0.heap.size w0 wr'.drew) := ⟨bdrew H3.out⟩
      have G : Aside0 (g < wr'.drew.heap.size) := ⟨(O3.out.lt g rfl).2⟩
      generalize wr'.drew = w1' at *
      refine inv_at [0, 1, 2, 3, 4, 5, 6, 7, 8, 9, 10] (fun a0_ b a w' => ∃ (gb : Nat) (m7_ : Value), a = putSel a0_ b [(0, 32, .pointer (some ⟨l, 0, none⟩)), (1, 33, .slice (some ⟨g, 0, none⟩) (k + 1) cap), (2, 34, .int .i64 (k : Int)), (3, 35, .pointer (some ⟨g, k, none⟩)), (4, 36, .int .i64 (f k)), (5, 37, .int .i64 (k : Int)), (6, 38, .int .u8 (k : Int)), (7, 39, m7_), (8, 40, .string (txB k)), (9, 41, .agg #[.int .i64 0, .int .i64 1, .string (txB k)]), (10, 42, .tuple #[])] ∧ (b 10 = false → LW w' (fun i => i < w0.heap.size ∨ some g = some i) l 2 k [] (alM k f txB)) ∧ (w'.ownsRow 0 3 1 (.slice (some ⟨g, 0, none⟩) (k + 1) cap) (k + 1) (ints (k + 1) f)) ∧ (Below w0.heap.size w0 w') ∧ (b 7 = true → b 8 = false → w'.cell? ⟨gb, 0, none⟩ = some (.int .u8 (k : Int))) ∧ (b 10 = true → LW w' (fun i => i < w0.heap.size ∨ some g = some i) l 2 (k + 1) [] (alM (k + 1) f txB)) ∧ (g < w'.heap.size) ∧ (b 7 = true → (m7_ : Value) = .slice (some ⟨gb, 0, none⟩) 1 1)) HT_.out HW_.out (by kernel_rfl) (by kernel_rfl) ?_ ?_ ?_
      · exact ⟨0, .bool false, by simp only [putSel, Bool.false_eq_true, if_false], fun _ => L.out, O.out, H.out, fun h_ => absurd h_ (by decide), fun h_ => absurd h_ (by decide), G.out, fun h_ => absurd h_ (by decide)⟩
      · skip
        clear G H L O
        refine steps_cons ?_ ?_
        · rintro b a w' ⟨gb, m7_, ha, Q_L, Q_O, Q_H, Q_Z, Q_L9, Q_G, Q_X7_⟩ hb_ hon hoff
          refine ⟨_, rfl, fun K hK => ?_⟩
          have e4 : a.tmps[4]? = some (.pointer (some ⟨l, 0, none⟩)) := by rw [ha]; exact (putSel_off rfl).trans rfl
          replace ha := Aside0.mk ha
          have L := Aside0.mk (Q_L (hoff 10 (by kernel_rfl)))
          have O := Aside0.mk Q_O
          have H := Aside0.mk Q_H
          have G := Aside0.mk Q_G
          refine value_ (w1 := w') (v := .pointer (some ⟨l, 0, none⟩)) (by rfl) rfl ?_ ?_
          · go_simp
            (try simp only [i64_w])
            try rfl
          refine hK.out _ _ ⟨gb, m7_, (by rw [ha.out]; exact putSel_upk 0 hb_ rfl rfl rfl), Q_L, Q_O, Q_H, Q_Z, fun h0_ => absurd ((hoff 10 (by kernel_rfl)).symm.trans h0_) (by decide), Q_G, Q_X7_⟩
        refine steps_cons ?_ ?_
        · rintro b a w' ⟨gb, m7_, ha, Q_L, Q_O, Q_H, Q_Z, Q_L9, Q_G, Q_X7_⟩ hb_ hon hoff
          refine ⟨_, rfl, fun K hK => ?_⟩
          have e5 : a.tmps[5]? = some (.slice (some ⟨g, 0, none⟩) (k + 1) cap) := by rw [ha]; exact (putSel_off rfl).trans rfl
          replace ha := Aside0.mk ha
          have L := Aside0.mk (Q_L (hoff 10 (by kernel_rfl)))
          have O := Aside0.mk Q_O
          have H := Aside0.mk Q_H
          have G := Aside0.mk Q_G
          refine value_ (w1 := w') (v := .slice (some ⟨g, 0, none⟩) (k + 1) cap) (by rfl) rfl ?_ ?_
          · go_simp
            (try simp only [i64_w])
            try rfl
          refine hK.out _ _ ⟨gb, m7_, (by rw [ha.out]; exact putSel_upk 1 hb_ rfl rfl rfl), Q_L, Q_O, Q_H, Q_Z, fun h0_ => absurd ((hoff 10 (by kernel_rfl)).symm.trans h0_) (by decide), Q_G, Q_X7_⟩
        refine steps_cons ?_ ?_
        · rintro b a w' ⟨gb, m7_, ha, Q_L, Q_O, Q_H, Q_Z, Q_L9, Q_G, Q_X7_⟩ hb_ hon hoff
          refine ⟨_, rfl, fun K hK => ?_⟩
          have e6 : a.tmps[6]? = some (.int .i64 (k : Int)) := by rw [ha]; exact (putSel_off rfl).trans rfl
          replace ha := Aside0.mk ha
          have L := Aside0.mk (Q_L (hoff 10 (by kernel_rfl)))
          have O := Aside0.mk Q_O
          have H := Aside0.mk Q_H
          have G := Aside0.mk Q_G
          refine value_ (w1 := w') (v := .int .i64 (k : Int)) (by rfl) rfl ?_ ?_
          · go_simp
            (try simp only [i64_w])
            try rfl
          refine hK.out _ _ ⟨gb, m7_, (by rw [ha.out]; exact putSel_upk 2 hb_ rfl rfl rfl), Q_L, Q_O, Q_H, Q_Z, fun h0_ => absurd ((hoff 10 (by kernel_rfl)).symm.trans h0_) (by decide), Q_G, Q_X7_⟩
        refine steps_cons ?_ ?_
        · rintro b a w' ⟨gb, m7_, ha, Q_L, Q_O, Q_H, Q_Z, Q_L9, Q_G, Q_X7_⟩ hb_ hon hoff
          refine ⟨_, rfl, fun K hK => ?_⟩
          have e33 : a.tmps[33]? = some (.slice (some ⟨g, 0, none⟩) (k + 1) cap) := by rw [ha]; exact putSel_on (e := (1, 33, .slice (some ⟨g, 0, none⟩) (k + 1) cap)) 1 rfl rfl (hon 1 (by kernel_rfl)) rfl
          have e34 : a.tmps[34]? = some (.int .i64 (k : Int)) := by rw [ha]; exact putSel_on (e := (2, 34, .int .i64 (k : Int))) 2 rfl rfl (hon 2 (by kernel_rfl)) rfl
          replace ha := Aside0.mk ha
          have L := Aside0.mk (Q_L (hoff 10 (by kernel_rfl)))
          have O := Aside0.mk Q_O
          have H := Aside0.mk Q_H
          have G := Aside0.mk Q_G
          have y0 := z0.out
          have y1 : (k : Int) < (k : Int) + 1 := by omega
          refine value_ (w1 := w') (v := .pointer (some ⟨g, k, none⟩)) (by rfl) rfl ?_ ?_
          · go_simp
            (try simp only [i64_w])
            try rfl
          refine hK.out _ _ ⟨gb, m7_, (by rw [ha.out]; exact putSel_upk 3 hb_ rfl rfl rfl), Q_L, Q_O, Q_H, Q_Z, fun h0_ => absurd ((hoff 10 (by kernel_rfl)).symm.trans h0_) (by decide), Q_G, Q_X7_⟩
        refine steps_cons ?_ ?_
        · rintro b a w' ⟨gb, m7_, ha, Q_L, Q_O, Q_H, Q_Z, Q_L9, Q_G, Q_X7_⟩ hb_ hon hoff
          refine ⟨_, rfl, fun K hK => ?_⟩
          have e35 : a.tmps[35]? = some (.pointer (some ⟨g, k, none⟩)) := by rw [ha]; exact putSel_on (e := (3, 35, .pointer (some ⟨g, k, none⟩))) 3 rfl rfl (hon 3 (by kernel_rfl)) rfl
          replace ha := Aside0.mk ha
          have L := Aside0.mk (Q_L (hoff 10 (by kernel_rfl)))
          have O := Aside0.mk Q_O
          have H := Aside0.mk Q_H
          have G := Aside0.mk Q_G
          have c0 : w'.cell? ⟨g, k, none⟩ = some (.int .i64 (f k)) := ints_cell O.out (by omega)
          refine value_ (w1 := w') (v := .int .i64 (f k)) (by rfl) rfl ?_ ?_
          · go_simp
            (try simp only [i64_w])
            try rfl
          refine hK.out _ _ ⟨gb, m7_, (by rw [ha.out]; exact putSel_upk 4 hb_ rfl rfl rfl), Q_L, Q_O, Q_H, Q_Z, fun h0_ => absurd ((hoff 10 (by kernel_rfl)).symm.trans h0_) (by decide), Q_G, Q_X7_⟩
        refine steps_cons ?_ ?_
        · rintro b a w' ⟨gb, m7_, ha, Q_L, Q_O, Q_H, Q_Z, Q_L9, Q_G, Q_X7_⟩ hb_ hon hoff
          refine ⟨_, rfl, fun K hK => ?_⟩
          have e6 : a.tmps[6]? = some (.int .i64 (k : Int)) := by rw [ha]; exact (putSel_off rfl).trans rfl
          replace ha := Aside0.mk ha
          have L := Aside0.mk (Q_L (hoff 10 (by kernel_rfl)))
          have O := Aside0.mk Q_O
          have H := Aside0.mk Q_H
          have G := Aside0.mk Q_G
          refine value_ (w1 := w') (v := .int .i64 (k : Int)) (by rfl) rfl ?_ ?_
          · go_simp
            (try simp only [i64_w])
            try rfl
          refine hK.out _ _ ⟨gb, m7_, (by rw [ha.out]; exact putSel_upk 5 hb_ rfl rfl rfl), Q_L, Q_O, Q_H, fun h0_ _ => absurd ((hoff 7 (by kernel_rfl)).symm.trans h0_) (by decide), fun h0_ => absurd ((hoff 10 (by kernel_rfl)).symm.trans h0_) (by decide), Q_G, fun h0_ => absurd ((hoff 7 (by kernel_rfl)).symm.trans h0_) (by decide)⟩
        refine steps_cons ?_ ?_
        · rintro b a w' ⟨gb, m7_, ha, Q_L, Q_O, Q_H, Q_Z, Q_L9, Q_G, Q_X7_⟩ hb_ hon hoff
          refine ⟨_, rfl, fun K hK => ?_⟩
          have e37 : a.tmps[37]? = some (.int .i64 (k : Int)) := by rw [ha]; exact putSel_on (e := (5, 37, .int .i64 (k : Int))) 5 rfl rfl (hon 5 (by kernel_rfl)) rfl
          replace ha := Aside0.mk ha
          have L := Aside0.mk (Q_L (hoff 10 (by kernel_rfl)))
          have O := Aside0.mk Q_O
          have H := Aside0.mk Q_H
          have G := Aside0.mk Q_G
          have y0 : IntKind.u8.wrap (k : Int) = (k : Int) := IntWalk.u8_in _ (by have := z1.out; omega)
          refine value_ (w1 := w') (v := .int .u8 (k : Int)) (by rfl) rfl ?_ ?_
          · go_simp
            (try simp only [i64_w])
            try rfl
          refine hK.out _ _ ⟨gb, m7_, (by rw [ha.out]; exact putSel_upk 6 hb_ rfl rfl rfl), Q_L, Q_O, Q_H, fun h0_ _ => absurd ((hoff 7 (by kernel_rfl)).symm.trans h0_) (by decide), fun h0_ => absurd ((hoff 10 (by kernel_rfl)).symm.trans h0_) (by decide), Q_G, fun h0_ => absurd ((hoff 7 (by kernel_rfl)).symm.trans h0_) (by decide)⟩
        refine steps_cons ?_ ?_
        · rintro b a w' ⟨gb, m7_, ha, Q_L, Q_O, Q_H, Q_Z, Q_L9, Q_G, Q_X7_⟩ hb_ hon hoff
          refine ⟨_, rfl, fun K hK => ?_⟩
          have e38 : a.tmps[38]? = some (.int .u8 (k : Int)) := by rw [ha]; exact putSel_on (e := (6, 38, .int .u8 (k : Int))) 6 rfl rfl (hon 6 (by kernel_rfl)) rfl
          replace ha := Aside0.mk ha
          have L := Aside0.mk (Q_L (hoff 10 (by kernel_rfl)))
          have O := Aside0.mk Q_O
          have H := Aside0.mk Q_H
          have G := Aside0.mk Q_G
          refine value_ (w1 := w'.alloc (.cells #[.int .u8 (k : Int)] 5)) (v := .slice (some ⟨w'.heap.size, 0, none⟩) 1 1) (by rfl) rfl ?_ ?_
          · go_simp
          refine hK.out _ _ ⟨w'.heap.size, (.slice (some ⟨w'.heap.size, 0, none⟩) 1 1), (by rw [ha.out]; exact putSel_upk 7 hb_ rfl rfl rfl), fun _ => L.out.quiet (balloc (Below.refl _ w') _), O.out.alloc _, balloc H.out _, fun _ _ => (Blk.new w' _ _ rfl).cell 0, fun h0_ => absurd ((hoff 10 (by kernel_rfl)).symm.trans h0_) (by decide), (by have := G.out; simp; omega), fun _ => rfl⟩
        refine steps_cons ?_ ?_
        · rintro b a w' ⟨gb, m7_, ha, Q_L, Q_O, Q_H, Q_Z, Q_L9, Q_G, Q_X7_⟩ hb_ hon hoff
          refine ⟨_, rfl, fun K hK => ?_⟩
          have e39 : a.tmps[39]? = some (m7_) := by rw [ha]; exact putSel_on (e := (7, 39, m7_)) 7 rfl rfl (hon 7 (by kernel_rfl)) rfl
          rw [Q_X7_ (hon 7 (by kernel_rfl))] at e39
          replace ha := Aside0.mk ha
          have L := Aside0.mk (Q_L (hoff 10 (by kernel_rfl)))
          have O := Aside0.mk Q_O
          have H := Aside0.mk Q_H
          have Z := Aside0.mk (Q_Z (hon 7 (by kernel_rfl)) hb_)
          have G := Aside0.mk Q_G
          have c0 := conv_one k gb w' (by have := z1.out; omega) Z.out
          refine value_ (w1 := w') (v := .string (txB k)) (by rfl) rfl ?_ ?_
          · go_simp
            (try simp only [i64_w])
            try rfl
          refine hK.out _ _ ⟨gb, m7_, (by rw [ha.out]; exact putSel_upk 8 hb_ rfl rfl rfl), Q_L, Q_O, Q_H, fun _ h1_ => absurd ((up_self b 8).symm.trans h1_) (by decide), fun h0_ => absurd ((hoff 10 (by kernel_rfl)).symm.trans h0_) (by decide), Q_G, Q_X7_⟩
        refine steps_cons ?_ ?_
        · rintro b a w' ⟨gb, m7_, ha, Q_L, Q_O, Q_H, Q_Z, Q_L9, Q_G, Q_X7_⟩ hb_ hon hoff
          refine ⟨_, rfl, fun K hK => ?_⟩
          have e40 : a.tmps[40]? = some (.string (txB k)) := by rw [ha]; exact putSel_on (e := (8, 40, .string (txB k))) 8 rfl rfl (hon 8 (by kernel_rfl)) rfl
          replace ha := Aside0.mk ha
          have L := Aside0.mk (Q_L (hoff 10 (by kernel_rfl)))
          have O := Aside0.mk Q_O
          have H := Aside0.mk Q_H
          have G := Aside0.mk Q_G
          refine call_ 18 #[.string (txB k)] (by rfl) rfl ?_ ?_
          · go_simp
          refine (told_any _ w').mono ?_
          rintro e w2 ⟨rfl, a1⟩
          refine ⟨_, rfl, ?_⟩
          refine hK.out _ _ ⟨gb, m7_, (by rw [ha.out]; exact putSel_upk 9 hb_ rfl rfl rfl), fun _ => L.out.quiet a1, ownsRow_touch O.out (Touch.of_below (s := fun _ => False) a1) (fun _ _ => id), bthen' H.out a1, fun _ h1_ => absurd ((hon 8 (by kernel_rfl)).symm.trans h1_) (by decide), fun h0_ => absurd ((hoff 10 (by kernel_rfl)).symm.trans h0_) (by decide), (Nat.lt_of_lt_of_le G.out a1.size), Q_X7_⟩
        refine steps_cons ?_ ?_
        · rintro b a w' ⟨gb, m7_, ha, Q_L, Q_O, Q_H, Q_Z, Q_L9, Q_G, Q_X7_⟩ hb_ hon hoff
          refine ⟨_, rfl, fun K hK => ?_⟩
          have e32 : a.tmps[32]? = some (.pointer (some ⟨l, 0, none⟩)) := by rw [ha]; exact putSel_on (e := (0, 32, .pointer (some ⟨l, 0, none⟩))) 0 rfl rfl (hon 0 (by kernel_rfl)) rfl
          have e36 : a.tmps[36]? = some (.int .i64 (f k)) := by rw [ha]; exact putSel_on (e := (4, 36, .int .i64 (f k))) 4 rfl rfl (hon 4 (by kernel_rfl)) rfl
          have e41 : a.tmps[41]? = some (.agg #[.int .i64 0, .int .i64 1, .string (txB k)]) := by rw [ha]; exact putSel_on (e := (9, 41, .agg #[.int .i64 0, .int .i64 1, .string (txB k)])) 9 rfl rfl (hon 9 (by kernel_rfl)) rfl
          replace ha := Aside0.mk ha
          have L := Aside0.mk (Q_L hb_)
          have O := Aside0.mk Q_O
          have H := Aside0.mk Q_H
          have G := Aside0.mk Q_G
          refine call_ 15 #[.pointer (some ⟨l, 0, none⟩), .int .i64 (f k), .agg #[.int .i64 0, .int .i64 1, .string (txB k)]] (by rfl) rfl ?_ ?_
          · go_simp
          refine (lw_send (fun i => i < w0.heap.size ∨ some g = some i) l k 2 [] (alM k f txB) (f k) 0 1 (txB k) w' L.out (by have := z1.out; omega) (by rw [alM_length]; have := z1.out; omega) (by simp) (by rintro i (h | h); exact Nat.lt_of_lt_of_le h H.out.size; cases h; exact G.out)).mono ?_
          rintro e w2 ⟨rfl, a1, a2⟩
          rw [alM_send HM.out HM2.out] at a1
          refine ⟨_, rfl, ?_⟩
          refine hK.out _ _ ⟨gb, m7_, (by rw [ha.out]; exact putSel_upk 10 hb_ rfl rfl rfl), fun h0_ => absurd ((up_self b 10).symm.trans h0_) (by decide), ownsRow_touch O.out a2 (fun i e h => h (.inr e)), H.out.trans (a2.below H.out.size (fun i h => by rcases Nat.lt_or_ge i w0.heap.size with h2 | h2; exact absurd (.inl h2) h; exact h2)), fun _ h1_ => absurd ((hon 8 (by kernel_rfl)).symm.trans h1_) (by decide), fun _ => a1, (Nat.lt_of_lt_of_le G.out a2.size), Q_X7_⟩
        exact steps_nil
      · rintro b a w' hall ⟨gb, m7_, ha, Q_L, Q_O, Q_H, Q_Z, Q_L9, Q_G, Q_X7_⟩
        clear G H L O
        have hb0_ := hall 0 (by kernel_rfl)
        have hb1_ := hall 1 (by kernel_rfl)
        have hb2_ := hall 2 (by kernel_rfl)
        have hb3_ := hall 3 (by kernel_rfl)
        have hb4_ := hall 4 (by kernel_rfl)
        have hb5_ := hall 5 (by kernel_rfl)
        have hb6_ := hall 6 (by kernel_rfl)
        have hb7_ := hall 7 (by kernel_rfl)
        have hb8_ := hall 8 (by kernel_rfl)
        have hb9_ := hall 9 (by kernel_rfl)
        have hb10_ := hall 10 (by kernel_rfl)
        subst ha
        obtain rfl := Q_X7_ hb7_
        simp only [putSel, hb0_, hb1_, hb2_, hb3_, hb4_, hb5_, hb6_, hb7_, hb8_, hb9_, hb10_, if_true, Act.put, List.setIfInBounds_toArray, List.set_cons_zero, List.set_cons_succ]
        clear Q_L
        have O := Aside0.mk Q_O
        clear Q_O
        have H := Aside0.mk Q_H
        clear Q_H
        clear Q_Z
        have L9 := Aside0.mk (Q_L9 hb10_)
        clear Q_L9
        have G := Aside0.mk Q_G
        clear Q_G
        clear hall hb0_ hb1_ hb2_ hb3_ hb4_ hb5_ hb6_ hb7_ hb8_ hb9_ hb10_
        go_wp2
        go_roundw
        case rel => exact ⟨k + 1, rfl, by omega, by omega, Lib.hid O.out, Lib.hid L9.out, Lib.hid H.out, Lib.hid (fun g' e => by cases e; exact B3.out)⟩
        case measure => simp [intOf]; omega
    · have hx : ¬ k < len ∨ (k < len ∧ ¬ k < 40) := by omega
      obtain ⟨vo, cap, hv, hvo⟩ : ∃ vo cap, u5 = .slice vo k cap ∧ (0 < k → ∃ g, vo = some ⟨g, 0, none⟩) := by
        rcases O.out.2 with ⟨e, e2⟩ | ⟨g, cap, cur, e, _⟩
        · have : k = 0 := by simpa [ints] using e2
          subst this
          exact ⟨none, 0, e, fun h => absurd h (by omega)⟩
        · exact ⟨_, cap, e, fun _ => ⟨g, rfl⟩⟩
      subst hv
      have VO := Lib.hid hvo
      have L0 : Hid (LW wr (fun i => i < w0.heap.size ∨ (Value.slice vo k cap).ownBlock = some i) l 2 k [] (alF k f txB 0 0)) := Lib.hid (by rw [alF_start (fun j => by rw [HF.out]; exact Int.emod_nonneg _ (by decide))]; exact L.out)
      have fin : Hid (alF k f txB ((5 : Nat) : Int) 0 = []) := Lib.hid (alF_end (fun j => by rw [HF.out]; exact Int.emod_lt_of_pos _ (by decide)))
      have BA : Hid (∀ i, (i < w0.heap.size ∨ (Value.slice vo k cap).ownBlock = some i) → True) := Lib.hid (fun _ _ => trivial)
      clear hvo L hc
      rcases hx with q | ⟨q, q2⟩
      all_goals
        go_wp2_with fail
        go_loopw [7] (fun a wr => ∃ t : Nat, a = .int .i64 t ∧ t ≤ 5 ∧ Hid (wr.ownsRow 0 3 1 (.slice vo k cap) k (ints k f)) ∧ Hid (LW wr (fun i => i < w0.heap.size ∨ (Value.slice vo k cap).ownBlock = some i) l 2 k [] (alF k f txB t 0)) ∧ Hid (Below w0.heap.size w0 wr)) (fun a _ => 5 - (intOf a).toNat)
        case atStart => exact ⟨0, rfl, by omega, O, L0, H⟩
        case round =>
          clear O L0 H
          rename_i wo _
          obtain ⟨t, rfl, ht, O, L, H⟩ := hrel
          by_cases ht5 : t < 5
          · have dt : decide ((t : Int) < 5) = true := by simp; omega
            go_wp2_with fail
            go_loopw [8] (fun b wi => ∃ j : Nat, b = .int .i64 j ∧ j ≤ k ∧ Hid (wi.ownsRow 0 3 1 (.slice vo k cap) k (ints k f)) ∧ Hid (LW wi (fun i => i < w0.heap.size ∨ (Value.slice vo k cap).ownBlock = some i) l 2 k [] (alF k f txB t j)) ∧ Hid (Below w0.heap.size w0 wi)) (fun b _ => k - (intOf b).toNat)
            case atStart => exact ⟨0, rfl, by omega, O, L, H⟩
            case round =>
              clear O L H
              rename_i wq _
              obtain ⟨j, rfl, hj, O, L, H⟩ := hrel
              by_cases hjk : j < k
              · obtain ⟨g, rfl⟩ := VO.out (by omega)
                have c0 := ints_cell O.out hjk
                have y0 : (0 : Int) ≤ (j : Int) := by omega
                by_cases he : f j = (t : Int)
                · have d1 : (f j == (t : Int)) = true := by simpa using he
                  have wr8 : IntKind.u8.wrap (j : Int) = (j : Int) := IntWalk.u8_in _ (by omega)
                  have Y := Lib.hid (alF_yes (tx := txB) hjk he)
                  have cz : (wr.alloc (.cells #[.int .u8 (j : Int)] 5)).cell? ⟨wr.heap.size, 0, none⟩ = some (.int .u8 (j : Int)) := (Blk.new wr #[.int .u8 (j : Int)] 5 rfl).cell 0
                  have cv := conv_one j wr.heap.size _ (by omega) cz
                  have L1 := Lib.hid (L.out.quiet (balloc (Below.refl _ wr) (.cells #[.int .u8 (j : Int)] 5)))
                  have H1 := Lib.hid (balloc H.out (.cells #[.int .u8 (j : Int)] 5))
                  have O1 := Lib.hid (O.out.alloc (.cells #[.int .u8 (j : Int)] 5))
                  clear he O L H cz
                  go_wp2_with fail
                  refine (gives_yes _ l k 2 [] _ (txB j) (t : Int) _ L1.out Y.out.1 (by rw [Y.out.2.1]) (by rw [Y.out.2.1]; simpa using d1)).mono ?_
                  rintro e w5 ⟨rfl, a1, a2⟩
                  rw [Y.out.2.1, Y.out.2.2] at a1
                  have L2 := Lib.hid a1
                  have O2 := Lib.hid (ownsRow_touch O1.out a2 (fun i e h => h (.inr e)))
                  have H2 := Lib.hid (H1.out.trans (a2.below H1.out.size (fun i h => by rcases Nat.lt_or_ge i w0.heap.size with h2 | h2; exact absurd (.inl h2) h; exact h2)))
                  clear a1 a2 L1 O1 H1 cv c0 wr8 Y
                  go_wp2_with fail
                  go_roundw
                  case rel => exact ⟨j + 1, rfl, by omega, O2, L2, H2⟩
                  case measure => simp [intOf]; omega
                · have d1 : (f j == (t : Int)) = false := by simpa using he
                  have L2 := L.out
                  rw [← alF_no he] at L2
                  have L3 := Lib.hid L2
                  clear he L L2
                  go_wp2_with fail
                  go_roundw
                  case rel => exact ⟨j + 1, rfl, by omega, O, L3, H⟩
                  case measure => simp [intOf]; omega
              · obtain rfl : j = k := by omega
                have L2 := L.out
                rw [alF_row] at L2
                have L3 := Lib.hid L2
                clear L L2
                go_wp2_with fail
                go_roundw
                case rel => exact ⟨t + 1, rfl, by omega, O, L3, H⟩
                case measure => simp [intOf]; omega
          · obtain rfl : t = 5 := by omega
            have L2 := L.out
            rw [fin.out] at L2
            have L3 := Lib.hid L2
            clear L L2
            go_wp2_with fail
            refine (lw_none _ l k 2 [] _ L3.out).mono ?_
            rintro e w5 ⟨rfl, a1, a2⟩
            have H3 := Lib.hid (balloc (bthen' H.out a2) (.cells #[.int .i64 0, .int .i64 0, .string ⟨#[]⟩] 31))
            clear a1 a2 L3 H O
            go_wp2_with fail
            go_ret
            exact ⟨rfl, H3.out⟩

end Go.Proofs.Ytemcbaacefjfnaa
