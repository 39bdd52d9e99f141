/- Next of the reference's lines. -/
import Derived.Test.YtemcbaacefjfnaaLnRfA
import Derived.Test.YtemcbaacefjfnaaLnRfS
set_option linter.unusedVariables false
set_option linter.unusedSimpArgs false
namespace Go.Proofs.Ytemcbaacefjfnaa
open Go.RowKit Go.Proofs.YtemcbaacefjfnaaW.PrintWords Go.Proofs.YtemcbaacefjfnaaW.PrintLast

theorem RF.form {w : World} {l sent : Nat} {n : Int} {vs vw : Value} {scr : List Tb} {m : List Wt} (h : RF w l n sent vs vw scr m) (h0 : m ≠ []) : ∃ g cap, vw = .slice (some ⟨g, 0, none⟩) m.length cap ∧ m.length ≤ cap ∧ cap ≤ maxLen ∧ g ≠ l := by
  rcases h.wait.2 with ⟨e, e2⟩ | ⟨g, cap, cur, e, _, _, h1, h2, _⟩
  · exact absurd (by simpa using e2) h0
  · exact ⟨g, cap, e, h1, h2, fun e2 => h.wl (by rw [e, ← e2]; rfl)⟩
theorem RF.at {w : World} {l sent : Nat} {n : Int} {vs : Value} {scr : List Tb} {m : List Wt} {g cap : Nat} (h : RF w l n sent vs (.slice (some ⟨g, 0, none⟩) m.length cap) scr m) (i q : Nat) (hi : i < m.length) (hq : q < 4) : w.cell? ⟨g, i * 4 + q, none⟩ = (cells4 (m.getD i default))[q]? := by
  have h1 := flat4_get m i q hi hq
  have e : m.getD i default = m[i] := by simp [List.getD, List.getElem?_eq_getElem hi]
  have h2 : q < (cells4 m[i]).length := hq
  rw [e]
  rw [List.getElem?_eq_getElem h2] at h1 ⊢
  have h3 := h.wait.cells (g := g) rfl _ _ h1
  rwa [cell_add] at h3
def rfNext.T10 : Bool × List (List Nat × List Nat) := (true, [([], []), ([], []), ([], []), ([2], [2]), ([3], [3]), ([4], [4]), ([], []), ([5, 6], [5, 6]), ([1, 7], [1, 7]), ([], []), ([9], [9]), ([10], [10]), ([11], [11]), ([], []), ([13], [13]), ([12, 14], [12, 14]), ([8, 15, 8], [8, 15]), ([0, 0, 1, 2, 3, 4, 5, 6, 7, 8, 9, 10, 11, 12, 13, 14, 15, 16], [0]), ([17, 0, 1, 2, 3, 4, 5, 6, 7, 8, 9, 10, 11, 12, 13, 14, 15, 16], [17]), ([18, 16, 16, 0, 1, 2, 3, 4, 5, 6, 7, 8, 9, 10, 11, 12, 13, 14, 15, 16], [16, 18])])
def rfNext.B10 : List Nat := [0, 0, 0, 4, 12, 28, 0, 124, 254, 0, 512, 1536, 3584, 0, 8192, 32256, 65534, 131071, 262143, 524287]
theorem rfNext.tab10 : rtab .any (opsOf Try.f23 10) = rfNext.T10 := by kernel_rfl
theorem rfNext.bits10 : waitsOk rfNext.T10.2 rfNext.B10 = true := by kernel_rfl

set_option maxRecDepth 100000 in
set_option maxHeartbeats 4000000 in
theorem rnext_some (l sent : Nat) (n : Int) (vs vw : Value) (scr : List Tb) (m : List Wt) (w0 : World) (hL : RF w0 l n sent vs vw scr m) (h0 : m ≠ []) (hm : m.length < 900000) :
    Calls Try.prog 23 #[.pointer (some ⟨l, 0, none⟩)] w0 fun e w' => ∃ y, y = m.getD (minI m m.length) default ∧ e = .returned (.tuple #[.agg #[.int .i64 y.src, .int .i64 y.dst, .string y.txt], .int .i64 y.due, .bool true]) ∧ ∃ vw', RF w' l n sent vs vw' scr (m.eraseIdx (minI m m.length)) ∧ (∀ g, vw'.ownBlock = some g → w0.heap.size ≤ g) ∧ Touch w0 w' (fun k => k = l) := by
  obtain ⟨g, cap, rfl, hcap, hcm, hgl⟩ := hL.form h0
  have hlen : 0 < m.length := List.length_pos_iff.2 h0
  have LT : Hid (∀ i, ownR l vs (.slice (some ⟨g, 0, none⟩) m.length cap) i → i < w0.heap.size) := Lib.hid (fun i h => hL.lt h)
  have hB := Blk.new w0 #[.int .i64 0, .int .i64 0, .string ⟨#[]⟩] 31 rfl
  have B := Lib.hid hB
  have T0 := Lib.hid (Touch.alloc w0 (.cells #[.int .i64 0, .int .i64 0, .string ⟨#[]⟩] 31) (fun k => k = l))
  have L0 := Lib.hid (hL.touch (Touch.alloc w0 (.cells #[.int .i64 0, .int .i64 0, .string ⟨#[]⟩] 31) (fun _ => False)) (fun _ _ => id))
  have c3 : (w0.alloc (.cells #[.int .i64 0, .int .i64 0, .string ⟨#[]⟩] 31)).cell? ⟨l, 3, none⟩ = some (.slice (some ⟨g, 0, none⟩) m.length cap) := L0.out.cell.cell 3
  clear hL hB
  obtain ⟨N, hN⟩ : ∃ N, N = m.length := ⟨_, rfl⟩
  have HN := Lib.hid hN
  rw [← hN] at L0 c3 hcap hlen hm LT ⊢
  clear hN
  have ez : ((N : Int) == 0) = false := by simp; omega
  go_enter Try.func23, Try.ntmps23
  go_wp2_with fail
  generalize hw1 : w0.alloc (.cells #[.int .i64 0, .int .i64 0, .string ⟨#[]⟩] 31) = w1 at *
  obtain ⟨gr, hgr⟩ : ∃ gr, gr = w0.heap.size := ⟨_, rfl⟩
  rw [← hgr] at B ⊢
  have GR := Lib.hid hgr
  clear hw1 hgr c3
  go_loopw [5, 6] (fun v5 v6 wr => ∃ k : Nat, v6 = .int .i64 k ∧ v5 = .int .i64 (minI m k) ∧ 1 ≤ k ∧ k ≤ N ∧ Hid (RF wr l n sent vs (.slice (some ⟨g, 0, none⟩) N cap) scr m) ∧ Hid (Touch w0 wr (fun k => k = l)) ∧ Hid (Blk wr gr #[.int .i64 0, .int .i64 0, .string ⟨#[]⟩] 31)) (fun _ v6 _ => N - (intOf v6).toNat)
  case atStart => exact ⟨1, rfl, by rw [minI_one]; rfl, Nat.le_refl _, hlen, L0, T0, B⟩
  case round =>
    clear L0 T0 B
    obtain ⟨k, rfl, rfl, hk1, hkN, L1, T1, B1⟩ := hrel
    have c3 : wr.cell? ⟨l, 3, none⟩ = some (.slice (some ⟨g, 0, none⟩) N cap) := L1.out.cell.cell 3
    by_cases hkn : k < N
    · have ed : decide (k < N) = true := by simpa using hkn
      have hml := minI_lt m k hk1
      have y0 : (0 : Int) ≤ (k : Int) := by omega
      have y1 : (k : Int) < (N : Int) := by omega
      have y2 : (0 : Int) ≤ (minI m k : Int) := by omega
      have y3 : (minI m k : Int) < (N : Int) := by omega
      have LH' : RF wr l n sent vs (.slice (some ⟨g, 0, none⟩) m.length cap) scr m := by rw [← HN.out]; exact L1.out
      have a0 : wr.cell? ⟨g, k * 4 + 3, none⟩ = some (.int .i64 (m.getD k default).due) := LH'.at k 3 (by rw [← HN.out]; omega) (by decide)
      have a1 : wr.cell? ⟨g, minI m k * 4 + 3, none⟩ = some (.int .i64 (m.getD (minI m k) default).due) := LH'.at (minI m k) 3 (by rw [← HN.out]; omega) (by decide)
      have MI : Hid (minI m (k + 1) = if (m.getD k default).due < (m.getD (minI m k) default).due then k else minI m k) := Lib.hid rfl
      generalize (m.getD k default).due = dk at *
      generalize (m.getD (minI m k) default).due = db at *
      generalize minI m k = mk at *
      clear LH'
      have L2 : ∀ nq, Hid (RF (wr.drewN nq) l n sent vs (.slice (some ⟨g, 0, none⟩) N cap) scr m) := fun nq => Lib.hid (L1.out.touch (Touch.drewN wr nq (fun _ => False)) (fun _ _ => id))
      have T2 : ∀ nq, Hid (Touch w0 (wr.drewN nq) (fun k => k = l)) := fun nq => Lib.hid (T1.out.trans (Touch.drewN wr nq _))
      have B2 : ∀ nq, Hid (Blk (wr.drewN nq) gr #[.int .i64 0, .int .i64 0, .string ⟨#[]⟩] 31) := fun nq => Lib.hid (B1.out.drewN nq)
      have X2 := Lib.hid (And.intro L2 (And.intro T2 B2))
      clear L1 T1 B1 L2 T2 B2
      go_wp2_with fail
      by_cases hd : dk < db
      · have dd : decide (dk < db) = true := by simpa using hd
        go_quiet (fail)
        go_wp2_with fail
        go_roundw
        case rel => exact ⟨k + 1, rfl, by rw [MI.out, if_pos hd], by omega, by omega, X2.out.1 _, X2.out.2.1 _, X2.out.2.2 _⟩
        case measure => simp [intOf]; omega
      · have dd : decide (dk < db) = false := by simpa using hd
        go_quiet (fail)
        go_wp2_with fail
        go_roundw
        case rel => exact ⟨k + 1, rfl, by rw [MI.out, if_neg hd], by omega, by omega, X2.out.1 _, X2.out.2.1 _, X2.out.2.2 _⟩
        case measure => simp [intOf]; omega
    · obtain rfl : k = N := by omega
      have ed : decide (k < k) = false := by simp
      have hml := minI_lt m k hk1
      have y2 : (0 : Int) ≤ (minI m k : Int) := by omega
      have y3 : (minI m k : Int) < (k : Int) := by omega
      have LH' : RF wr l n sent vs (.slice (some ⟨g, 0, none⟩) m.length cap) scr m := by rw [← HN.out]; exact L1.out
      obtain ⟨y, hy⟩ : ∃ y, y = m.getD (minI m k) default := ⟨_, rfl⟩
      have a0 : wr.cell? ⟨g, minI m k * 4, none⟩ = some (.int .i64 y.src) := by rw [hy]; exact LH'.at (minI m k) 0 (by rw [← HN.out]; omega) (by decide)
      have a1 : wr.cell? ⟨g, minI m k * 4 + 1, none⟩ = some (.int .i64 y.dst) := by rw [hy]; exact LH'.at (minI m k) 1 (by rw [← HN.out]; omega) (by decide)
      have a2 : wr.cell? ⟨g, minI m k * 4 + 2, none⟩ = some (.string y.txt) := by rw [hy]; exact LH'.at (minI m k) 2 (by rw [← HN.out]; omega) (by decide)
      have a3 : wr.cell? ⟨g, minI m k * 4 + 3, none⟩ = some (.int .i64 y.due) := by rw [hy]; exact LH'.at (minI m k) 3 (by rw [← HN.out]; omega) (by decide)
      have HY := Lib.hid hy
      clear LH' hy
      obtain ⟨mk, hmk⟩ : ∃ mk, mk = minI m k := ⟨_, rfl⟩
      rw [← hmk] at HY hml y2 y3 a0 a1 a2 a3 ⊢
      have MK := Lib.hid hmk
      clear hmk
      have L2 := Lib.hid (L1.out.touch (Touch.alloc wr (.cells #[.int .i64 y.src, .int .i64 y.dst, .string y.txt, .int .i64 y.due] 74) (fun _ => False)) (fun _ _ => id))
      have T2 := Lib.hid (T1.out.trans (Touch.alloc wr (.cells #[.int .i64 y.src, .int .i64 y.dst, .string y.txt, .int .i64 y.due] 74) _))
      have B2 := Lib.hid (B1.out.alloc (.cells #[.int .i64 y.src, .int .i64 y.dst, .string y.txt, .int .i64 y.due] 74))
      have D2 := Lib.hid (Blk.new wr #[.int .i64 y.src, .int .i64 y.dst, .string y.txt, .int .i64 y.due] 74 rfl)
      have TW := Lib.hid (T1.out.size)
      have NE := Lib.hid (show gr ≠ wr.heap.size from Nat.ne_of_lt B1.out.lt)
      clear L1 T1 B1
      go_upto_region 10 with fail
      generalize hw2 : wr.alloc (.cells #[.int .i64 y.src, .int .i64 y.dst, .string y.txt, .int .i64 y.due] 74) = w2 at *
      obtain ⟨gc, hgc⟩ : ∃ gc, gc = wr.heap.size := ⟨_, rfl⟩
      rw [← hgc] at D2 NE ⊢
      have GC := Lib.hid (show l < gc by rw [hgc]; exact Nat.lt_of_lt_of_le (LT.out l (.inl rfl)) TW.out)
      clear hw2 hgc a0 a1 a2 a3 c3 y2 y3
      have L0 := Aside0.mk L2.out
      have TA := Aside0.mk T2.out
      have BR := Aside0.mk B2.out
      have DC := Aside0.mk D2.out
      have hlN := Aside0.mk (show mk < k from hml)
      have hkc := Aside0.mk hcap
      have hk9 := Aside0.mk hm
      clear L2 T2 B2 D2 hml hcap hm
      have hgl' := Aside0.mk hgl
      have SZ0 : Aside0 (∀ i, (ownR l vs (.slice (some ⟨g, 0, none⟩) k cap) i ∨ i = gr ∨ i = gc) → i < w2.heap.size) := ⟨by
        rintro i (h | rfl | rfl)
        · exact L0.out.lt h
        · exact BR.out.lt
        · exact DC.out.lt⟩
      have GRL : Aside0 (gr ≠ l ∧ gc ≠ l) := ⟨by
        have h1 := LT.out l (.inl rfl)
        have h2 := GR.out
        have h3 := NE.out
        refine ⟨by omega, ?_⟩
        have h4 := GC.out
        omega⟩
      have HNA := Aside0.mk HN.out
      have GRW := Aside0.mk (show w0.heap.size ≤ gr from Nat.le_of_eq GR.out.symm)
      have NVS : Aside0 (vs.ownBlock ≠ some gr) := ⟨fun e => by have h1 := LT.out gr (.inr (.inl e)); have h2 := GR.out; omega⟩
      clear LT NE GR GC hgl HN
      by_cases hcc : mk + 1 = cap
      · have EQ := Aside0.mk (And.intro hcc (show k = cap by have := hlN.out; have := hkc.out; omega))
        clear hcc
        refine start_ (n := 20) (S := fun w' => True) (ds := []) #[false, false, false, false, false, false, false, false, false, false, false, false, false, false, false, false, false, false, false, false] (by kernel_rfl) rfl rfl trivial (fun hHeld => ?_)
        refine with_tabW rfNext.tab10 rfNext.bits10 (fun HT_ HW_ => ?_)
        have L : Aside0 (RF w2.drew l n sent vs (.slice (some ⟨g, 0, none⟩) k cap) scr m) := ⟨L0.out.touch (Touch.drewN w2 1 (fun _ => False)) (fun _ _ => id)⟩
        replace TA : Aside0 (Touch w0 w2.drew (fun k => k = l)) := ⟨TA.out.trans (Touch.drewN w2 1 _)⟩
        replace BR : Aside0 (Blk w2.drew gr #[.int .i64 0, .int .i64 0, .string ⟨#[]⟩] 31) := ⟨BR.out⟩
        replace DC : Aside0 (Blk w2.drew gc #[.int .i64 y.src, .int .i64 y.dst, .string y.txt, .int .i64 y.due] 74) := ⟨DC.out⟩
        have SZ : Aside0 (∀ i, (ownR l vs (.slice (some ⟨g, 0, none⟩) k cap) i ∨ i = gr ∨ i = gc) → i < w2.drew.heap.size) := ⟨SZ0.out⟩
        generalize w2.drew = w1' at *
        refine inv_at [0, 1, 2, 3, 4, 5, 6, 7, 8, 9, 10, 11, 12, 13, 14, 15, 16, 17, 18, 19] (fun a0_ b a w' => ∃ (ge : Nat) (v1 : Value) (v2 : Value) (m1_ : Value), a = putSel a0_ b [(0, 53, .pointer (some ⟨l, 0, none⟩)), (1, 54, m1_), (2, 55, .pointer (some ⟨l, 0, none⟩)), (3, 56, .pointer (some ⟨l, 0, none⟩)), (4, 57, .pointer (some ⟨l, 3, none⟩)), (5, 58, .slice (some ⟨g, 0, none⟩) k cap), (6, 59, .int .i64 (mk : Int)), (7, 60, .slice (some ⟨g, 0, none⟩) mk cap), (8, 61, v1), (9, 62, .pointer (some ⟨l, 0, none⟩)), (10, 63, .pointer (some ⟨l, 0, none⟩)), (11, 64, .pointer (some ⟨l, 3, none⟩)), (12, 65, .slice (some ⟨g, 0, none⟩) k cap), (13, 66, .int .i64 (mk : Int)), (14, 67, .int .i64 ((mk : Int) + 1)), (15, 68, .slice (some ⟨g, 0, none⟩) 0 0), (16, 69, v2), (17, 70, .pointer (some ⟨l, 0, none⟩)), (18, 71, .pointer (some ⟨l, 3, none⟩))] ∧ (b 19 = false → RF w' l n sent vs (.slice (some ⟨g, 0, none⟩) k cap) scr m) ∧ (Touch w0 w' (fun k => k = l)) ∧ (Blk w' gr #[.int .i64 0, .int .i64 0, .string ⟨#[]⟩] 31) ∧ (Blk w' gc #[.int .i64 y.src, .int .i64 y.dst, .string y.txt, .int .i64 y.due] 74) ∧ (∀ i, (ownR l vs (.slice (some ⟨g, 0, none⟩) k cap) i ∨ i = gr ∨ i = gc) → i < w'.heap.size) ∧ (b 1 = true → b 8 = false → w'.ownsRow 0 74 4 (.slice (some ⟨ge, 0, none⟩) 0 0) 0 []) ∧ (b 1 = true → ∀ i, (ownR l vs (.slice (some ⟨g, 0, none⟩) k cap) i ∨ i = gr ∨ i = gc) → i ≠ ge) ∧ (b 1 = true → w0.heap.size ≤ ge) ∧ (b 8 = true → b 16 = false → w'.ownsRow 0 74 4 v1 mk (flat4 (m.take mk))) ∧ (b 8 = true → ∀ i, (ownR l vs (.slice (some ⟨g, 0, none⟩) k cap) i ∨ i = gr ∨ i = gc) → v1.ownBlock ≠ some i) ∧ (b 8 = true → ∀ q, v1.ownBlock = some q → w0.heap.size ≤ q) ∧ (b 16 = true → b 19 = false → w'.ownsRow 0 74 4 v2 (m.eraseIdx mk).length (flat4 (m.eraseIdx mk))) ∧ (b 16 = true → ∀ i, (ownR l vs (.slice (some ⟨g, 0, none⟩) k cap) i ∨ i = gr ∨ i = gc) → v2.ownBlock ≠ some i) ∧ (b 16 = true → ∀ q, v2.ownBlock = some q → w0.heap.size ≤ q) ∧ (b 19 = true → RF w' l n sent vs v2 scr (m.eraseIdx mk)) ∧ (b 1 = true → (m1_ : Value) = .slice (some ⟨ge, 0, none⟩) 0 0)) HT_.out HW_.out (by kernel_rfl) (by kernel_rfl) ?_ ?_ ?_
        · exact ⟨0, undef, undef, .bool false, by simp only [putSel, Bool.false_eq_true, if_false], fun _ => L.out, TA.out, BR.out, DC.out, SZ.out, fun h_ => absurd h_ (by decide), fun h_ => absurd h_ (by decide), fun h_ => absurd h_ (by decide), fun h_ => absurd h_ (by decide), fun h_ => absurd h_ (by decide), fun h_ => absurd h_ (by decide), fun h_ => absurd h_ (by decide), fun h_ => absurd h_ (by decide), fun h_ => absurd h_ (by decide), fun h_ => absurd h_ (by decide), fun h_ => absurd h_ (by decide)⟩
        · skip
          clear BR DC L SZ TA
          refine steps_cons ?_ ?_
          · rintro b a w' ⟨ge, v1, v2, m1_, ha, Q_L, Q_TA, Q_BR, Q_DC, Q_SZ, Q_E1, Q_NG, Q_GE, Q_O1, Q_NV, Q_GV, Q_O2, Q_NW, Q_GW, Q_R3, Q_X1_⟩ hb_ hon hoff
            refine ⟨_, rfl, fun K hK => ?_⟩
            have e0 : a.tmps[0]? = some (.pointer (some ⟨l, 0, none⟩)) := by rw [ha]; exact (putSel_off rfl).trans rfl
            replace ha := Aside0.mk ha
            have L := Aside0.mk (Q_L (hoff 19 (by kernel_rfl)))
            have TA := Aside0.mk Q_TA
            have BR := Aside0.mk Q_BR
            have DC := Aside0.mk Q_DC
            have SZ := Aside0.mk Q_SZ
            refine value_ (w1 := w') (v := .pointer (some ⟨l, 0, none⟩)) (by rfl) rfl ?_ ?_
            · go_simp
              (try simp only [i64_w])
              try rfl
            refine hK.out _ _ ⟨ge, v1, v2, m1_, (by rw [ha.out]; exact putSel_upk 0 hb_ rfl rfl rfl), Q_L, Q_TA, Q_BR, Q_DC, Q_SZ, Q_E1, Q_NG, Q_GE, Q_O1, Q_NV, Q_GV, Q_O2, Q_NW, Q_GW, fun h0_ => absurd ((hoff 19 (by kernel_rfl)).symm.trans h0_) (by decide), Q_X1_⟩
          refine steps_cons ?_ ?_
          · rintro b a w' ⟨ge, v1, v2, m1_, ha, Q_L, Q_TA, Q_BR, Q_DC, Q_SZ, Q_E1, Q_NG, Q_GE, Q_O1, Q_NV, Q_GV, Q_O2, Q_NW, Q_GW, Q_R3, Q_X1_⟩ hb_ hon hoff
            refine ⟨_, rfl, fun K hK => ?_⟩
            replace ha := Aside0.mk ha
            have L := Aside0.mk (Q_L (hoff 19 (by kernel_rfl)))
            have TA := Aside0.mk Q_TA
            have BR := Aside0.mk Q_BR
            have DC := Aside0.mk Q_DC
            have SZ := Aside0.mk Q_SZ
            refine value_ (w1 := w'.alloc (.cells #[] 74)) (v := .slice (some ⟨w'.heap.size, 0, none⟩) 0 0) (by rfl) rfl ?_ ?_
            · go_simp
            refine hK.out _ _ ⟨w'.heap.size, v1, v2, (.slice (some ⟨w'.heap.size, 0, none⟩) 0 0), (by rw [ha.out]; exact putSel_upk 1 hb_ rfl rfl rfl), fun _ => L.out.touch (Touch.alloc w' _ (fun _ => False)) (fun _ _ => id), TA.out.trans (Touch.alloc w' _ _), BR.out.alloc _, DC.out.alloc _, fun i h => by have := SZ.out i h; simp; omega, fun _ _ => ⟨rfl, .inr ⟨w'.heap.size, 0, #[], rfl, Nat.zero_le _, Blk.new w' _ _ rfl, Nat.le_refl _, Nat.zero_le _, rfl, rfl⟩⟩, fun _ => fun i h e => by have := SZ.out i h; omega, fun _ => TA.out.size, fun h0_ _ => absurd ((hoff 8 (by kernel_rfl)).symm.trans h0_) (by decide), fun h0_ => absurd ((hoff 8 (by kernel_rfl)).symm.trans h0_) (by decide), fun h0_ => absurd ((hoff 8 (by kernel_rfl)).symm.trans h0_) (by decide), fun h0_ _ => absurd ((hoff 16 (by kernel_rfl)).symm.trans h0_) (by decide), fun h0_ => absurd ((hoff 16 (by kernel_rfl)).symm.trans h0_) (by decide), fun h0_ => absurd ((hoff 16 (by kernel_rfl)).symm.trans h0_) (by decide), fun h0_ => absurd ((hoff 19 (by kernel_rfl)).symm.trans h0_) (by decide), fun _ => rfl⟩
          refine steps_cons ?_ ?_
          · rintro b a w' ⟨ge, v1, v2, m1_, ha, Q_L, Q_TA, Q_BR, Q_DC, Q_SZ, Q_E1, Q_NG, Q_GE, Q_O1, Q_NV, Q_GV, Q_O2, Q_NW, Q_GW, Q_R3, Q_X1_⟩ hb_ hon hoff
            refine ⟨_, rfl, fun K hK => ?_⟩
            have e0 : a.tmps[0]? = some (.pointer (some ⟨l, 0, none⟩)) := by rw [ha]; exact (putSel_off rfl).trans rfl
            replace ha := Aside0.mk ha
            have L := Aside0.mk (Q_L (hoff 19 (by kernel_rfl)))
            have TA := Aside0.mk Q_TA
            have BR := Aside0.mk Q_BR
            have DC := Aside0.mk Q_DC
            have SZ := Aside0.mk Q_SZ
            refine value_ (w1 := w') (v := .pointer (some ⟨l, 0, none⟩)) (by rfl) rfl ?_ ?_
            · go_simp
              (try simp only [i64_w])
              try rfl
            refine hK.out _ _ ⟨ge, v1, v2, m1_, (by rw [ha.out]; exact putSel_upk 2 hb_ rfl rfl rfl), Q_L, Q_TA, Q_BR, Q_DC, Q_SZ, Q_E1, Q_NG, Q_GE, fun h0_ _ => absurd ((hoff 8 (by kernel_rfl)).symm.trans h0_) (by decide), fun h0_ => absurd ((hoff 8 (by kernel_rfl)).symm.trans h0_) (by decide), fun h0_ => absurd ((hoff 8 (by kernel_rfl)).symm.trans h0_) (by decide), fun h0_ _ => absurd ((hoff 16 (by kernel_rfl)).symm.trans h0_) (by decide), fun h0_ => absurd ((hoff 16 (by kernel_rfl)).symm.trans h0_) (by decide), fun h0_ => absurd ((hoff 16 (by kernel_rfl)).symm.trans h0_) (by decide), fun h0_ => absurd ((hoff 19 (by kernel_rfl)).symm.trans h0_) (by decide), Q_X1_⟩
          refine steps_cons ?_ ?_
          · rintro b a w' ⟨ge, v1, v2, m1_, ha, Q_L, Q_TA, Q_BR, Q_DC, Q_SZ, Q_E1, Q_NG, Q_GE, Q_O1, Q_NV, Q_GV, Q_O2, Q_NW, Q_GW, Q_R3, Q_X1_⟩ hb_ hon hoff
            refine ⟨_, rfl, fun K hK => ?_⟩
            have e55 : a.tmps[55]? = some (.pointer (some ⟨l, 0, none⟩)) := by rw [ha]; exact putSel_on (e := (2, 55, .pointer (some ⟨l, 0, none⟩))) 2 rfl rfl (hon 2 (by kernel_rfl)) rfl
            replace ha := Aside0.mk ha
            have L := Aside0.mk (Q_L (hoff 19 (by kernel_rfl)))
            have TA := Aside0.mk Q_TA
            have BR := Aside0.mk Q_BR
            have DC := Aside0.mk Q_DC
            have SZ := Aside0.mk Q_SZ
            refine value_ (w1 := w') (v := .pointer (some ⟨l, 0, none⟩)) (by rfl) rfl ?_ ?_
            · go_simp
              (try simp only [i64_w])
              try rfl
            refine hK.out _ _ ⟨ge, v1, v2, m1_, (by rw [ha.out]; exact putSel_upk 3 hb_ rfl rfl rfl), Q_L, Q_TA, Q_BR, Q_DC, Q_SZ, Q_E1, Q_NG, Q_GE, fun h0_ _ => absurd ((hoff 8 (by kernel_rfl)).symm.trans h0_) (by decide), fun h0_ => absurd ((hoff 8 (by kernel_rfl)).symm.trans h0_) (by decide), fun h0_ => absurd ((hoff 8 (by kernel_rfl)).symm.trans h0_) (by decide), fun h0_ _ => absurd ((hoff 16 (by kernel_rfl)).symm.trans h0_) (by decide), fun h0_ => absurd ((hoff 16 (by kernel_rfl)).symm.trans h0_) (by decide), fun h0_ => absurd ((hoff 16 (by kernel_rfl)).symm.trans h0_) (by decide), fun h0_ => absurd ((hoff 19 (by kernel_rfl)).symm.trans h0_) (by decide), Q_X1_⟩
          refine steps_cons ?_ ?_
          · rintro b a w' ⟨ge, v1, v2, m1_, ha, Q_L, Q_TA, Q_BR, Q_DC, Q_SZ, Q_E1, Q_NG, Q_GE, Q_O1, Q_NV, Q_GV, Q_O2, Q_NW, Q_GW, Q_R3, Q_X1_⟩ hb_ hon hoff
            refine ⟨_, rfl, fun K hK => ?_⟩
            have e56 : a.tmps[56]? = some (.pointer (some ⟨l, 0, none⟩)) := by rw [ha]; exact putSel_on (e := (3, 56, .pointer (some ⟨l, 0, none⟩))) 3 rfl rfl (hon 3 (by kernel_rfl)) rfl
            replace ha := Aside0.mk ha
            have L := Aside0.mk (Q_L (hoff 19 (by kernel_rfl)))
            have TA := Aside0.mk Q_TA
            have BR := Aside0.mk Q_BR
            have DC := Aside0.mk Q_DC
            have SZ := Aside0.mk Q_SZ
            refine value_ (w1 := w') (v := .pointer (some ⟨l, 3, none⟩)) (by rfl) rfl ?_ ?_
            · go_simp
              (try simp only [i64_w])
              try rfl
            refine hK.out _ _ ⟨ge, v1, v2, m1_, (by rw [ha.out]; exact putSel_upk 4 hb_ rfl rfl rfl), Q_L, Q_TA, Q_BR, Q_DC, Q_SZ, Q_E1, Q_NG, Q_GE, fun h0_ _ => absurd ((hoff 8 (by kernel_rfl)).symm.trans h0_) (by decide), fun h0_ => absurd ((hoff 8 (by kernel_rfl)).symm.trans h0_) (by decide), fun h0_ => absurd ((hoff 8 (by kernel_rfl)).symm.trans h0_) (by decide), fun h0_ _ => absurd ((hoff 16 (by kernel_rfl)).symm.trans h0_) (by decide), fun h0_ => absurd ((hoff 16 (by kernel_rfl)).symm.trans h0_) (by decide), fun h0_ => absurd ((hoff 16 (by kernel_rfl)).symm.trans h0_) (by decide), fun h0_ => absurd ((hoff 19 (by kernel_rfl)).symm.trans h0_) (by decide), Q_X1_⟩
          refine steps_cons ?_ ?_
          · rintro b a w' ⟨ge, v1, v2, m1_, ha, Q_L, Q_TA, Q_BR, Q_DC, Q_SZ, Q_E1, Q_NG, Q_GE, Q_O1, Q_NV, Q_GV, Q_O2, Q_NW, Q_GW, Q_R3, Q_X1_⟩ hb_ hon hoff
            refine ⟨_, rfl, fun K hK => ?_⟩
            have e57 : a.tmps[57]? = some (.pointer (some ⟨l, 3, none⟩)) := by rw [ha]; exact putSel_on (e := (4, 57, .pointer (some ⟨l, 3, none⟩))) 4 rfl rfl (hon 4 (by kernel_rfl)) rfl
            replace ha := Aside0.mk ha
            have L := Aside0.mk (Q_L (hoff 19 (by kernel_rfl)))
            have TA := Aside0.mk Q_TA
            have BR := Aside0.mk Q_BR
            have DC := Aside0.mk Q_DC
            have SZ := Aside0.mk Q_SZ
            have c0 : w'.cell? ⟨l, 3, none⟩ = some (.slice (some ⟨g, 0, none⟩) k cap) := L.out.cell.cell 3
            refine value_ (w1 := w') (v := .slice (some ⟨g, 0, none⟩) k cap) (by rfl) rfl ?_ ?_
            · go_simp
              (try simp only [i64_w])
              try rfl
            refine hK.out _ _ ⟨ge, v1, v2, m1_, (by rw [ha.out]; exact putSel_upk 5 hb_ rfl rfl rfl), Q_L, Q_TA, Q_BR, Q_DC, Q_SZ, Q_E1, Q_NG, Q_GE, fun h0_ _ => absurd ((hoff 8 (by kernel_rfl)).symm.trans h0_) (by decide), fun h0_ => absurd ((hoff 8 (by kernel_rfl)).symm.trans h0_) (by decide), fun h0_ => absurd ((hoff 8 (by kernel_rfl)).symm.trans h0_) (by decide), fun h0_ _ => absurd ((hoff 16 (by kernel_rfl)).symm.trans h0_) (by decide), fun h0_ => absurd ((hoff 16 (by kernel_rfl)).symm.trans h0_) (by decide), fun h0_ => absurd ((hoff 16 (by kernel_rfl)).symm.trans h0_) (by decide), fun h0_ => absurd ((hoff 19 (by kernel_rfl)).symm.trans h0_) (by decide), Q_X1_⟩
          refine steps_cons ?_ ?_
          · rintro b a w' ⟨ge, v1, v2, m1_, ha, Q_L, Q_TA, Q_BR, Q_DC, Q_SZ, Q_E1, Q_NG, Q_GE, Q_O1, Q_NV, Q_GV, Q_O2, Q_NW, Q_GW, Q_R3, Q_X1_⟩ hb_ hon hoff
            refine ⟨_, rfl, fun K hK => ?_⟩
            have e5 : a.tmps[5]? = some (.int .i64 (mk : Int)) := by rw [ha]; exact (putSel_off rfl).trans rfl
            replace ha := Aside0.mk ha
            have L := Aside0.mk (Q_L (hoff 19 (by kernel_rfl)))
            have TA := Aside0.mk Q_TA
            have BR := Aside0.mk Q_BR
            have DC := Aside0.mk Q_DC
            have SZ := Aside0.mk Q_SZ
            refine value_ (w1 := w') (v := .int .i64 (mk : Int)) (by rfl) rfl ?_ ?_
            · go_simp
              (try simp only [i64_w])
              try rfl
            refine hK.out _ _ ⟨ge, v1, v2, m1_, (by rw [ha.out]; exact putSel_upk 6 hb_ rfl rfl rfl), Q_L, Q_TA, Q_BR, Q_DC, Q_SZ, Q_E1, Q_NG, Q_GE, fun h0_ _ => absurd ((hoff 8 (by kernel_rfl)).symm.trans h0_) (by decide), fun h0_ => absurd ((hoff 8 (by kernel_rfl)).symm.trans h0_) (by decide), fun h0_ => absurd ((hoff 8 (by kernel_rfl)).symm.trans h0_) (by decide), fun h0_ _ => absurd ((hoff 16 (by kernel_rfl)).symm.trans h0_) (by decide), fun h0_ => absurd ((hoff 16 (by kernel_rfl)).symm.trans h0_) (by decide), fun h0_ => absurd ((hoff 16 (by kernel_rfl)).symm.trans h0_) (by decide), fun h0_ => absurd ((hoff 19 (by kernel_rfl)).symm.trans h0_) (by decide), Q_X1_⟩
          refine steps_cons ?_ ?_
          · rintro b a w' ⟨ge, v1, v2, m1_, ha, Q_L, Q_TA, Q_BR, Q_DC, Q_SZ, Q_E1, Q_NG, Q_GE, Q_O1, Q_NV, Q_GV, Q_O2, Q_NW, Q_GW, Q_R3, Q_X1_⟩ hb_ hon hoff
            refine ⟨_, rfl, fun K hK => ?_⟩
            have e58 : a.tmps[58]? = some (.slice (some ⟨g, 0, none⟩) k cap) := by rw [ha]; exact putSel_on (e := (5, 58, .slice (some ⟨g, 0, none⟩) k cap)) 5 rfl rfl (hon 5 (by kernel_rfl)) rfl
            have e59 : a.tmps[59]? = some (.int .i64 (mk : Int)) := by rw [ha]; exact putSel_on (e := (6, 59, .int .i64 (mk : Int))) 6 rfl rfl (hon 6 (by kernel_rfl)) rfl
            replace ha := Aside0.mk ha
            have L := Aside0.mk (Q_L (hoff 19 (by kernel_rfl)))
            have TA := Aside0.mk Q_TA
            have BR := Aside0.mk Q_BR
            have DC := Aside0.mk Q_DC
            have SZ := Aside0.mk Q_SZ
            have y0 : (0 : Int) ≤ (mk : Int) := by omega
            have y1 : (mk : Int) ≤ (cap : Int) := by have := hlN.out; have := hkc.out; omega
            refine value_ (w1 := w') (v := .slice (some ⟨g, 0, none⟩) mk cap) (by rfl) rfl ?_ ?_
            · go_simp
              (try simp only [i64_w])
              try rfl
            refine hK.out _ _ ⟨ge, v1, v2, m1_, (by rw [ha.out]; exact putSel_upk 7 hb_ rfl rfl rfl), Q_L, Q_TA, Q_BR, Q_DC, Q_SZ, Q_E1, Q_NG, Q_GE, fun h0_ _ => absurd ((hoff 8 (by kernel_rfl)).symm.trans h0_) (by decide), fun h0_ => absurd ((hoff 8 (by kernel_rfl)).symm.trans h0_) (by decide), fun h0_ => absurd ((hoff 8 (by kernel_rfl)).symm.trans h0_) (by decide), fun h0_ _ => absurd ((hoff 16 (by kernel_rfl)).symm.trans h0_) (by decide), fun h0_ => absurd ((hoff 16 (by kernel_rfl)).symm.trans h0_) (by decide), fun h0_ => absurd ((hoff 16 (by kernel_rfl)).symm.trans h0_) (by decide), fun h0_ => absurd ((hoff 19 (by kernel_rfl)).symm.trans h0_) (by decide), Q_X1_⟩
          refine steps_cons ?_ ?_
          · rintro b a w' ⟨ge, v1, v2, m1_, ha, Q_L, Q_TA, Q_BR, Q_DC, Q_SZ, Q_E1, Q_NG, Q_GE, Q_O1, Q_NV, Q_GV, Q_O2, Q_NW, Q_GW, Q_R3, Q_X1_⟩ hb_ hon hoff
            refine ⟨_, rfl, fun K hK => ?_⟩
            have e54 : a.tmps[54]? = some (m1_) := by rw [ha]; exact putSel_on (e := (1, 54, m1_)) 1 rfl rfl (hon 1 (by kernel_rfl)) rfl
            rw [Q_X1_ (hon 1 (by kernel_rfl))] at e54
            have e60 : a.tmps[60]? = some (.slice (some ⟨g, 0, none⟩) mk cap) := by rw [ha]; exact putSel_on (e := (7, 60, .slice (some ⟨g, 0, none⟩) mk cap)) 7 rfl rfl (hon 7 (by kernel_rfl)) rfl
            replace ha := Aside0.mk ha
            have L := Aside0.mk (Q_L (hoff 19 (by kernel_rfl)))
            have TA := Aside0.mk Q_TA
            have BR := Aside0.mk Q_BR
            have DC := Aside0.mk Q_DC
            have SZ := Aside0.mk Q_SZ
            have E1 := Aside0.mk (Q_E1 (hon 1 (by kernel_rfl)) hb_)
            have NG := Aside0.mk (Q_NG (hon 1 (by kernel_rfl)))
            have GE := Aside0.mk (Q_GE (hon 1 (by kernel_rfl)))
            have hw : ∀ j u, (flat4 (m.take mk))[j]? = some u → w'.cell? ((⟨g, 0, none⟩ : Addr).add j) = some u := by
              intro j u hu
              have e : flat4 m = flat4 (m.take mk) ++ flat4 (m.drop mk) := by rw [← flat4_append, List.take_append_drop]
              exact L.out.wait.cells (g := g) rfl j u (by rw [e, List.getElem?_append_left (List.getElem?_eq_some_iff.1 hu).1]; exact hu)
            obtain ⟨vv, w2, hr, o1, o2, o3⟩ := append_many (P := Try.prog) w' Try.underlying66 infoC rfl (by decide) _ 0 [] E1.out ⟨g, 0, none⟩ mk cap (flat4 (m.take mk)) (by rw [flat4_length, List.length_take, Nat.min_eq_left (by rw [← HNA.out]; exact Nat.le_of_lt hlN.out)]) hw (flat4_one _) (by have := hlN.out; have := hk9.out; omega) (by decide)
            refine value_ (w1 := w2) (v := vv) (by rfl) rfl ?_ ?_
            · exact run_append_op (by rfl) e54 e60 hr
            have tt := Touch.of_grownBy o2
            refine hK.out _ _ ⟨ge, vv, v2, m1_, (by rw [ha.out]; exact putSel_upk 8 hb_ rfl rfl rfl), fun _ => L.out.touch tt (fun i h => by intro e; cases e; exact NG.out _ (.inl h) rfl), TA.out.then tt (by rintro i hi e; exact absurd hi (by cases e; exact Nat.not_lt.2 GE.out)), tt.blk BR.out (by intro e; cases e; exact NG.out _ (.inr (.inl rfl)) rfl), tt.blk DC.out (by intro e; cases e; exact NG.out _ (.inr (.inr rfl)) rfl), fun i h => Nat.lt_of_lt_of_le (SZ.out i h) tt.size, fun _ h1_ => absurd ((up_self b 8).symm.trans h1_) (by decide), Q_NG, Q_GE, fun _ _ => (by simpa using o1), fun _ => fun i h e => by rcases o3 with e2 | ⟨q, e2, e3⟩; (rw [e] at e2; cases e2; exact NG.out _ h rfl); (rw [e] at e2; cases e2; have := SZ.out _ h; omega), fun _ => fun q h => by rcases o3 with e2 | ⟨q', e2, e3⟩; (rw [h] at e2; cases e2; exact GE.out); (rw [h] at e2; cases e2; exact Nat.le_trans TA.out.size e3), fun h0_ _ => absurd ((hoff 16 (by kernel_rfl)).symm.trans h0_) (by decide), fun h0_ => absurd ((hoff 16 (by kernel_rfl)).symm.trans h0_) (by decide), fun h0_ => absurd ((hoff 16 (by kernel_rfl)).symm.trans h0_) (by decide), fun h0_ => absurd ((hoff 19 (by kernel_rfl)).symm.trans h0_) (by decide), Q_X1_⟩
          refine steps_cons ?_ ?_
          · rintro b a w' ⟨ge, v1, v2, m1_, ha, Q_L, Q_TA, Q_BR, Q_DC, Q_SZ, Q_E1, Q_NG, Q_GE, Q_O1, Q_NV, Q_GV, Q_O2, Q_NW, Q_GW, Q_R3, Q_X1_⟩ hb_ hon hoff
            refine ⟨_, rfl, fun K hK => ?_⟩
            have e0 : a.tmps[0]? = some (.pointer (some ⟨l, 0, none⟩)) := by rw [ha]; exact (putSel_off rfl).trans rfl
            replace ha := Aside0.mk ha
            have L := Aside0.mk (Q_L (hoff 19 (by kernel_rfl)))
            have TA := Aside0.mk Q_TA
            have BR := Aside0.mk Q_BR
            have DC := Aside0.mk Q_DC
            have SZ := Aside0.mk Q_SZ
            refine value_ (w1 := w') (v := .pointer (some ⟨l, 0, none⟩)) (by rfl) rfl ?_ ?_
            · go_simp
              (try simp only [i64_w])
              try rfl
            refine hK.out _ _ ⟨ge, v1, v2, m1_, (by rw [ha.out]; exact putSel_upk 9 hb_ rfl rfl rfl), Q_L, Q_TA, Q_BR, Q_DC, Q_SZ, Q_E1, Q_NG, Q_GE, Q_O1, Q_NV, Q_GV, fun h0_ _ => absurd ((hoff 16 (by kernel_rfl)).symm.trans h0_) (by decide), fun h0_ => absurd ((hoff 16 (by kernel_rfl)).symm.trans h0_) (by decide), fun h0_ => absurd ((hoff 16 (by kernel_rfl)).symm.trans h0_) (by decide), fun h0_ => absurd ((hoff 19 (by kernel_rfl)).symm.trans h0_) (by decide), Q_X1_⟩
          refine steps_cons ?_ ?_
          · rintro b a w' ⟨ge, v1, v2, m1_, ha, Q_L, Q_TA, Q_BR, Q_DC, Q_SZ, Q_E1, Q_NG, Q_GE, Q_O1, Q_NV, Q_GV, Q_O2, Q_NW, Q_GW, Q_R3, Q_X1_⟩ hb_ hon hoff
            refine ⟨_, rfl, fun K hK => ?_⟩
            have e62 : a.tmps[62]? = some (.pointer (some ⟨l, 0, none⟩)) := by rw [ha]; exact putSel_on (e := (9, 62, .pointer (some ⟨l, 0, none⟩))) 9 rfl rfl (hon 9 (by kernel_rfl)) rfl
            replace ha := Aside0.mk ha
            have L := Aside0.mk (Q_L (hoff 19 (by kernel_rfl)))
            have TA := Aside0.mk Q_TA
            have BR := Aside0.mk Q_BR
            have DC := Aside0.mk Q_DC
            have SZ := Aside0.mk Q_SZ
            refine value_ (w1 := w') (v := .pointer (some ⟨l, 0, none⟩)) (by rfl) rfl ?_ ?_
            · go_simp
              (try simp only [i64_w])
              try rfl
            refine hK.out _ _ ⟨ge, v1, v2, m1_, (by rw [ha.out]; exact putSel_upk 10 hb_ rfl rfl rfl), Q_L, Q_TA, Q_BR, Q_DC, Q_SZ, Q_E1, Q_NG, Q_GE, Q_O1, Q_NV, Q_GV, fun h0_ _ => absurd ((hoff 16 (by kernel_rfl)).symm.trans h0_) (by decide), fun h0_ => absurd ((hoff 16 (by kernel_rfl)).symm.trans h0_) (by decide), fun h0_ => absurd ((hoff 16 (by kernel_rfl)).symm.trans h0_) (by decide), fun h0_ => absurd ((hoff 19 (by kernel_rfl)).symm.trans h0_) (by decide), Q_X1_⟩
          refine steps_cons ?_ ?_
          · rintro b a w' ⟨ge, v1, v2, m1_, ha, Q_L, Q_TA, Q_BR, Q_DC, Q_SZ, Q_E1, Q_NG, Q_GE, Q_O1, Q_NV, Q_GV, Q_O2, Q_NW, Q_GW, Q_R3, Q_X1_⟩ hb_ hon hoff
            refine ⟨_, rfl, fun K hK => ?_⟩
            have e63 : a.tmps[63]? = some (.pointer (some ⟨l, 0, none⟩)) := by rw [ha]; exact putSel_on (e := (10, 63, .pointer (some ⟨l, 0, none⟩))) 10 rfl rfl (hon 10 (by kernel_rfl)) rfl
            replace ha := Aside0.mk ha
            have L := Aside0.mk (Q_L (hoff 19 (by kernel_rfl)))
            have TA := Aside0.mk Q_TA
            have BR := Aside0.mk Q_BR
            have DC := Aside0.mk Q_DC
            have SZ := Aside0.mk Q_SZ
            refine value_ (w1 := w') (v := .pointer (some ⟨l, 3, none⟩)) (by rfl) rfl ?_ ?_
            · go_simp
              (try simp only [i64_w])
              try rfl
            refine hK.out _ _ ⟨ge, v1, v2, m1_, (by rw [ha.out]; exact putSel_upk 11 hb_ rfl rfl rfl), Q_L, Q_TA, Q_BR, Q_DC, Q_SZ, Q_E1, Q_NG, Q_GE, Q_O1, Q_NV, Q_GV, fun h0_ _ => absurd ((hoff 16 (by kernel_rfl)).symm.trans h0_) (by decide), fun h0_ => absurd ((hoff 16 (by kernel_rfl)).symm.trans h0_) (by decide), fun h0_ => absurd ((hoff 16 (by kernel_rfl)).symm.trans h0_) (by decide), fun h0_ => absurd ((hoff 19 (by kernel_rfl)).symm.trans h0_) (by decide), Q_X1_⟩
          refine steps_cons ?_ ?_
          · rintro b a w' ⟨ge, v1, v2, m1_, ha, Q_L, Q_TA, Q_BR, Q_DC, Q_SZ, Q_E1, Q_NG, Q_GE, Q_O1, Q_NV, Q_GV, Q_O2, Q_NW, Q_GW, Q_R3, Q_X1_⟩ hb_ hon hoff
            refine ⟨_, rfl, fun K hK => ?_⟩
            have e64 : a.tmps[64]? = some (.pointer (some ⟨l, 3, none⟩)) := by rw [ha]; exact putSel_on (e := (11, 64, .pointer (some ⟨l, 3, none⟩))) 11 rfl rfl (hon 11 (by kernel_rfl)) rfl
            replace ha := Aside0.mk ha
            have L := Aside0.mk (Q_L (hoff 19 (by kernel_rfl)))
            have TA := Aside0.mk Q_TA
            have BR := Aside0.mk Q_BR
            have DC := Aside0.mk Q_DC
            have SZ := Aside0.mk Q_SZ
            have c0 : w'.cell? ⟨l, 3, none⟩ = some (.slice (some ⟨g, 0, none⟩) k cap) := L.out.cell.cell 3
            refine value_ (w1 := w') (v := .slice (some ⟨g, 0, none⟩) k cap) (by rfl) rfl ?_ ?_
            · go_simp
              (try simp only [i64_w])
              try rfl
            refine hK.out _ _ ⟨ge, v1, v2, m1_, (by rw [ha.out]; exact putSel_upk 12 hb_ rfl rfl rfl), Q_L, Q_TA, Q_BR, Q_DC, Q_SZ, Q_E1, Q_NG, Q_GE, Q_O1, Q_NV, Q_GV, fun h0_ _ => absurd ((hoff 16 (by kernel_rfl)).symm.trans h0_) (by decide), fun h0_ => absurd ((hoff 16 (by kernel_rfl)).symm.trans h0_) (by decide), fun h0_ => absurd ((hoff 16 (by kernel_rfl)).symm.trans h0_) (by decide), fun h0_ => absurd ((hoff 19 (by kernel_rfl)).symm.trans h0_) (by decide), Q_X1_⟩
          refine steps_cons ?_ ?_
          · rintro b a w' ⟨ge, v1, v2, m1_, ha, Q_L, Q_TA, Q_BR, Q_DC, Q_SZ, Q_E1, Q_NG, Q_GE, Q_O1, Q_NV, Q_GV, Q_O2, Q_NW, Q_GW, Q_R3, Q_X1_⟩ hb_ hon hoff
            refine ⟨_, rfl, fun K hK => ?_⟩
            have e5 : a.tmps[5]? = some (.int .i64 (mk : Int)) := by rw [ha]; exact (putSel_off rfl).trans rfl
            replace ha := Aside0.mk ha
            have L := Aside0.mk (Q_L (hoff 19 (by kernel_rfl)))
            have TA := Aside0.mk Q_TA
            have BR := Aside0.mk Q_BR
            have DC := Aside0.mk Q_DC
            have SZ := Aside0.mk Q_SZ
            refine value_ (w1 := w') (v := .int .i64 (mk : Int)) (by rfl) rfl ?_ ?_
            · go_simp
              (try simp only [i64_w])
              try rfl
            refine hK.out _ _ ⟨ge, v1, v2, m1_, (by rw [ha.out]; exact putSel_upk 13 hb_ rfl rfl rfl), Q_L, Q_TA, Q_BR, Q_DC, Q_SZ, Q_E1, Q_NG, Q_GE, Q_O1, Q_NV, Q_GV, fun h0_ _ => absurd ((hoff 16 (by kernel_rfl)).symm.trans h0_) (by decide), fun h0_ => absurd ((hoff 16 (by kernel_rfl)).symm.trans h0_) (by decide), fun h0_ => absurd ((hoff 16 (by kernel_rfl)).symm.trans h0_) (by decide), fun h0_ => absurd ((hoff 19 (by kernel_rfl)).symm.trans h0_) (by decide), Q_X1_⟩
          refine steps_cons ?_ ?_
          · rintro b a w' ⟨ge, v1, v2, m1_, ha, Q_L, Q_TA, Q_BR, Q_DC, Q_SZ, Q_E1, Q_NG, Q_GE, Q_O1, Q_NV, Q_GV, Q_O2, Q_NW, Q_GW, Q_R3, Q_X1_⟩ hb_ hon hoff
            refine ⟨_, rfl, fun K hK => ?_⟩
            have e66 : a.tmps[66]? = some (.int .i64 (mk : Int)) := by rw [ha]; exact putSel_on (e := (13, 66, .int .i64 (mk : Int))) 13 rfl rfl (hon 13 (by kernel_rfl)) rfl
            replace ha := Aside0.mk ha
            have L := Aside0.mk (Q_L (hoff 19 (by kernel_rfl)))
            have TA := Aside0.mk Q_TA
            have BR := Aside0.mk Q_BR
            have DC := Aside0.mk Q_DC
            have SZ := Aside0.mk Q_SZ
            have y2 : IntKind.i64.wrap ((mk : Int) + 1) = (mk : Int) + 1 := IntWalk.i64_in _ (by have := hlN.out; have := hk9.out; omega)
            refine value_ (w1 := w') (v := .int .i64 ((mk : Int) + 1)) (by rfl) rfl ?_ ?_
            · go_simp
              (try simp only [i64_w])
              try rfl
            refine hK.out _ _ ⟨ge, v1, v2, m1_, (by rw [ha.out]; exact putSel_upk 14 hb_ rfl rfl rfl), Q_L, Q_TA, Q_BR, Q_DC, Q_SZ, Q_E1, Q_NG, Q_GE, Q_O1, Q_NV, Q_GV, fun h0_ _ => absurd ((hoff 16 (by kernel_rfl)).symm.trans h0_) (by decide), fun h0_ => absurd ((hoff 16 (by kernel_rfl)).symm.trans h0_) (by decide), fun h0_ => absurd ((hoff 16 (by kernel_rfl)).symm.trans h0_) (by decide), fun h0_ => absurd ((hoff 19 (by kernel_rfl)).symm.trans h0_) (by decide), Q_X1_⟩
          refine steps_cons ?_ ?_
          · rintro b a w' ⟨ge, v1, v2, m1_, ha, Q_L, Q_TA, Q_BR, Q_DC, Q_SZ, Q_E1, Q_NG, Q_GE, Q_O1, Q_NV, Q_GV, Q_O2, Q_NW, Q_GW, Q_R3, Q_X1_⟩ hb_ hon hoff
            refine ⟨_, rfl, fun K hK => ?_⟩
            have e65 : a.tmps[65]? = some (.slice (some ⟨g, 0, none⟩) k cap) := by rw [ha]; exact putSel_on (e := (12, 65, .slice (some ⟨g, 0, none⟩) k cap)) 12 rfl rfl (hon 12 (by kernel_rfl)) rfl
            have e67 : a.tmps[67]? = some (.int .i64 ((mk : Int) + 1)) := by rw [ha]; exact putSel_on (e := (14, 67, .int .i64 ((mk : Int) + 1))) 14 rfl rfl (hon 14 (by kernel_rfl)) rfl
            replace ha := Aside0.mk ha
            have L := Aside0.mk (Q_L (hoff 19 (by kernel_rfl)))
            have TA := Aside0.mk Q_TA
            have BR := Aside0.mk Q_BR
            have DC := Aside0.mk Q_DC
            have SZ := Aside0.mk Q_SZ
            have y0 : (0 : Int) ≤ (mk : Int) + 1 := by omega
            have y1 : (mk : Int) + 1 ≤ (k : Int) := by have := hlN.out; omega
            have y2 : (k : Int) ≤ (cap : Int) := by have := hkc.out; omega
            have y3 : mk + 1 = cap := EQ.out.1
            have y4 : k = cap := EQ.out.2
            have y5 : (mk : Int) + 1 ≤ (cap : Int) := by omega
            refine value_ (w1 := w') (v := .slice (some ⟨g, 0, none⟩) 0 0) (by rfl) rfl ?_ ?_
            · go_simp
              (try simp only [i64_w])
              try rfl
            refine hK.out _ _ ⟨ge, v1, v2, m1_, (by rw [ha.out]; exact putSel_upk 15 hb_ rfl rfl rfl), Q_L, Q_TA, Q_BR, Q_DC, Q_SZ, Q_E1, Q_NG, Q_GE, Q_O1, Q_NV, Q_GV, fun h0_ _ => absurd ((hoff 16 (by kernel_rfl)).symm.trans h0_) (by decide), fun h0_ => absurd ((hoff 16 (by kernel_rfl)).symm.trans h0_) (by decide), fun h0_ => absurd ((hoff 16 (by kernel_rfl)).symm.trans h0_) (by decide), fun h0_ => absurd ((hoff 19 (by kernel_rfl)).symm.trans h0_) (by decide), Q_X1_⟩
          refine steps_cons ?_ ?_
          · rintro b a w' ⟨ge, v1, v2, m1_, ha, Q_L, Q_TA, Q_BR, Q_DC, Q_SZ, Q_E1, Q_NG, Q_GE, Q_O1, Q_NV, Q_GV, Q_O2, Q_NW, Q_GW, Q_R3, Q_X1_⟩ hb_ hon hoff
            refine ⟨_, rfl, fun K hK => ?_⟩
            have e61 : a.tmps[61]? = some (v1) := by rw [ha]; exact putSel_on (e := (8, 61, v1)) 8 rfl rfl (hon 8 (by kernel_rfl)) rfl
            have e68 : a.tmps[68]? = some (.slice (some ⟨g, 0, none⟩) 0 0) := by rw [ha]; exact putSel_on (e := (15, 68, .slice (some ⟨g, 0, none⟩) 0 0)) 15 rfl rfl (hon 15 (by kernel_rfl)) rfl
            replace ha := Aside0.mk ha
            have L := Aside0.mk (Q_L (hoff 19 (by kernel_rfl)))
            have TA := Aside0.mk Q_TA
            have BR := Aside0.mk Q_BR
            have DC := Aside0.mk Q_DC
            have SZ := Aside0.mk Q_SZ
            have NG := Aside0.mk (Q_NG (hon 1 (by kernel_rfl)))
            have GE := Aside0.mk (Q_GE (hon 1 (by kernel_rfl)))
            have O1 := Aside0.mk (Q_O1 (hon 8 (by kernel_rfl)) hb_)
            have NV := Aside0.mk (Q_NV (hon 8 (by kernel_rfl)))
            have GV := Aside0.mk (Q_GV (hon 8 (by kernel_rfl)))
            have hd : m.drop (mk + 1) = [] := by rw [List.drop_eq_nil_iff, ← HNA.out]; have := EQ.out; omega
            obtain ⟨vv, w2, hr, o1, o2, o3⟩ := append_many (P := Try.prog) w' Try.underlying66 infoC rfl (by decide) v1 mk _ O1.out ⟨g, 0, none⟩ 0 0 [] rfl (by intro j u hu; simp at hu) (by intro u hu; cases hu) (by have := hlN.out; have := hk9.out; omega) (by decide)
            have o1' : w2.ownsRow 0 74 4 vv (m.eraseIdx mk).length (flat4 (m.eraseIdx mk)) := by
              rw [List.eraseIdx_eq_take_drop_succ, hd, List.append_nil]
              have hle : (m.take mk).length = mk + 0 := by rw [List.length_take, ← HNA.out, Nat.min_eq_left (Nat.le_of_lt hlN.out)]; rfl
              rw [hle]; rw [List.append_nil] at o1; exact o1
            refine value_ (w1 := w2) (v := vv) (by rfl) rfl ?_ ?_
            · exact run_append_op (by rfl) e61 e68 hr
            have tt := Touch.of_grownBy o2
            refine hK.out _ _ ⟨ge, v1, vv, m1_, (by rw [ha.out]; exact putSel_upk 16 hb_ rfl rfl rfl), fun _ => L.out.touch tt (fun i h => by intro e; exact NV.out _ (.inl h) e), TA.out.then tt (by rintro i hi e; exact absurd hi (by have := GV.out _ e; omega)), tt.blk BR.out (by intro e; exact NV.out _ (.inr (.inl rfl)) e), tt.blk DC.out (by intro e; exact NV.out _ (.inr (.inr rfl)) e), fun i h => Nat.lt_of_lt_of_le (SZ.out i h) tt.size, fun _ h1_ => absurd ((hon 8 (by kernel_rfl)).symm.trans h1_) (by decide), Q_NG, Q_GE, fun _ h1_ => absurd ((up_self b 16).symm.trans h1_) (by decide), Q_NV, Q_GV, fun _ _ => o1', fun _ => fun i h e => by rcases o3 with e2 | ⟨q, e2, e3⟩; (exact NV.out _ h (e2 ▸ e)); (rw [e] at e2; cases e2; have := SZ.out _ h; omega), fun _ => fun q h => by rcases o3 with e2 | ⟨q', e2, e3⟩; (exact GV.out _ (e2 ▸ h)); (rw [h] at e2; cases e2; exact Nat.le_trans TA.out.size e3), fun h0_ => absurd ((hoff 19 (by kernel_rfl)).symm.trans h0_) (by decide), Q_X1_⟩
          refine steps_cons ?_ ?_
          · rintro b a w' ⟨ge, v1, v2, m1_, ha, Q_L, Q_TA, Q_BR, Q_DC, Q_SZ, Q_E1, Q_NG, Q_GE, Q_O1, Q_NV, Q_GV, Q_O2, Q_NW, Q_GW, Q_R3, Q_X1_⟩ hb_ hon hoff
            refine ⟨_, rfl, fun K hK => ?_⟩
            have e53 : a.tmps[53]? = some (.pointer (some ⟨l, 0, none⟩)) := by rw [ha]; exact putSel_on (e := (0, 53, .pointer (some ⟨l, 0, none⟩))) 0 rfl rfl (hon 0 (by kernel_rfl)) rfl
            replace ha := Aside0.mk ha
            have L := Aside0.mk (Q_L (hoff 19 (by kernel_rfl)))
            have TA := Aside0.mk Q_TA
            have BR := Aside0.mk Q_BR
            have DC := Aside0.mk Q_DC
            have SZ := Aside0.mk Q_SZ
            have NG := Aside0.mk (Q_NG (hon 1 (by kernel_rfl)))
            have GE := Aside0.mk (Q_GE (hon 1 (by kernel_rfl)))
            have NV := Aside0.mk (Q_NV (hon 8 (by kernel_rfl)))
            have GV := Aside0.mk (Q_GV (hon 8 (by kernel_rfl)))
            have O2 := Aside0.mk (Q_O2 (hon 16 (by kernel_rfl)) (hoff 19 (by kernel_rfl)))
            have NW := Aside0.mk (Q_NW (hon 16 (by kernel_rfl)))
            have GW := Aside0.mk (Q_GW (hon 16 (by kernel_rfl)))
            refine value_ (w1 := w') (v := .pointer (some ⟨l, 0, none⟩)) (by rfl) rfl ?_ ?_
            · go_simp
              (try simp only [i64_w])
              try rfl
            refine hK.out _ _ ⟨ge, v1, v2, m1_, (by rw [ha.out]; exact putSel_upk 17 hb_ rfl rfl rfl), Q_L, Q_TA, Q_BR, Q_DC, Q_SZ, fun _ h1_ => absurd ((hon 8 (by kernel_rfl)).symm.trans h1_) (by decide), Q_NG, Q_GE, fun _ h1_ => absurd ((hon 16 (by kernel_rfl)).symm.trans h1_) (by decide), Q_NV, Q_GV, Q_O2, Q_NW, Q_GW, fun h0_ => absurd ((hoff 19 (by kernel_rfl)).symm.trans h0_) (by decide), Q_X1_⟩
          refine steps_cons ?_ ?_
          · rintro b a w' ⟨ge, v1, v2, m1_, ha, Q_L, Q_TA, Q_BR, Q_DC, Q_SZ, Q_E1, Q_NG, Q_GE, Q_O1, Q_NV, Q_GV, Q_O2, Q_NW, Q_GW, Q_R3, Q_X1_⟩ hb_ hon hoff
            refine ⟨_, rfl, fun K hK => ?_⟩
            have e70 : a.tmps[70]? = some (.pointer (some ⟨l, 0, none⟩)) := by rw [ha]; exact putSel_on (e := (17, 70, .pointer (some ⟨l, 0, none⟩))) 17 rfl rfl (hon 17 (by kernel_rfl)) rfl
            replace ha := Aside0.mk ha
            have L := Aside0.mk (Q_L (hoff 19 (by kernel_rfl)))
            have TA := Aside0.mk Q_TA
            have BR := Aside0.mk Q_BR
            have DC := Aside0.mk Q_DC
            have SZ := Aside0.mk Q_SZ
            have NG := Aside0.mk (Q_NG (hon 1 (by kernel_rfl)))
            have GE := Aside0.mk (Q_GE (hon 1 (by kernel_rfl)))
            have NV := Aside0.mk (Q_NV (hon 8 (by kernel_rfl)))
            have GV := Aside0.mk (Q_GV (hon 8 (by kernel_rfl)))
            have O2 := Aside0.mk (Q_O2 (hon 16 (by kernel_rfl)) (hoff 19 (by kernel_rfl)))
            have NW := Aside0.mk (Q_NW (hon 16 (by kernel_rfl)))
            have GW := Aside0.mk (Q_GW (hon 16 (by kernel_rfl)))
            refine value_ (w1 := w') (v := .pointer (some ⟨l, 3, none⟩)) (by rfl) rfl ?_ ?_
            · go_simp
              (try simp only [i64_w])
              try rfl
            refine hK.out _ _ ⟨ge, v1, v2, m1_, (by rw [ha.out]; exact putSel_upk 18 hb_ rfl rfl rfl), Q_L, Q_TA, Q_BR, Q_DC, Q_SZ, fun _ h1_ => absurd ((hon 8 (by kernel_rfl)).symm.trans h1_) (by decide), Q_NG, Q_GE, fun _ h1_ => absurd ((hon 16 (by kernel_rfl)).symm.trans h1_) (by decide), Q_NV, Q_GV, Q_O2, Q_NW, Q_GW, fun h0_ => absurd ((hoff 19 (by kernel_rfl)).symm.trans h0_) (by decide), Q_X1_⟩
          refine steps_cons ?_ ?_
          · rintro b a w' ⟨ge, v1, v2, m1_, ha, Q_L, Q_TA, Q_BR, Q_DC, Q_SZ, Q_E1, Q_NG, Q_GE, Q_O1, Q_NV, Q_GV, Q_O2, Q_NW, Q_GW, Q_R3, Q_X1_⟩ hb_ hon hoff
            refine ⟨_, rfl, fun K hK => ?_⟩
            have e71 : a.tmps[71]? = some (.pointer (some ⟨l, 3, none⟩)) := by rw [ha]; exact putSel_on (e := (18, 71, .pointer (some ⟨l, 3, none⟩))) 18 rfl rfl (hon 18 (by kernel_rfl)) rfl
            have e69 : a.tmps[69]? = some (v2) := by rw [ha]; exact putSel_on (e := (16, 69, v2)) 16 rfl rfl (hon 16 (by kernel_rfl)) rfl
            replace ha := Aside0.mk ha
            have L := Aside0.mk (Q_L hb_)
            have TA := Aside0.mk Q_TA
            have BR := Aside0.mk Q_BR
            have DC := Aside0.mk Q_DC
            have SZ := Aside0.mk Q_SZ
            have NG := Aside0.mk (Q_NG (hon 1 (by kernel_rfl)))
            have GE := Aside0.mk (Q_GE (hon 1 (by kernel_rfl)))
            have NV := Aside0.mk (Q_NV (hon 8 (by kernel_rfl)))
            have GV := Aside0.mk (Q_GV (hon 8 (by kernel_rfl)))
            have O2 := Aside0.mk (Q_O2 (hon 16 (by kernel_rfl)) hb_)
            have NW := Aside0.mk (Q_NW (hon 16 (by kernel_rfl)))
            have GW := Aside0.mk (Q_GW (hon 16 (by kernel_rfl)))
            have hr := store_row4 O2.out L.out.cell (by simp)
            refine skip_ (w1 := w'.setCell ⟨l, 3, none⟩ v2) (by rfl) rfl ?_ ?_
            · exact run_store_op (by rfl) e71 e69 hr
            have ra : RA w' l n sent vs (.slice (some ⟨g, 0, none⟩) k cap) v2 scr (m.eraseIdx mk) := ⟨L.out.cell, L.out.row, O2.out, L.out.vl, NW.out _ (.inl (.inl rfl)), fun q hq e => NW.out _ (.inl (.inr (.inl hq))) e⟩
            refine hK.out _ _ ⟨ge, v1, v2, m1_, (by rw [ha.out]; exact putSel_none (v := undef) rfl), fun h0_ => absurd ((up_self b 19).symm.trans h0_) (by decide), TA.out.trans (Touch.setCell w' l 3 _ _ rfl), BR.out.far GRL.out.1 3 _, DC.out.far GRL.out.2 3 _, fun i h => by have := SZ.out i h; simpa using this, fun _ h1_ => absurd ((hon 8 (by kernel_rfl)).symm.trans h1_) (by decide), Q_NG, Q_GE, fun _ h1_ => absurd ((hon 16 (by kernel_rfl)).symm.trans h1_) (by decide), Q_NV, Q_GV, fun _ h1_ => absurd ((up_self b 19).symm.trans h1_) (by decide), Q_NW, Q_GW, fun _ => ra.put, Q_X1_⟩
          exact steps_nil
        · rintro b a w' hall ⟨ge, v1, v2, m1_, ha, Q_L, Q_TA, Q_BR, Q_DC, Q_SZ, Q_E1, Q_NG, Q_GE, Q_O1, Q_NV, Q_GV, Q_O2, Q_NW, Q_GW, Q_R3, Q_X1_⟩
          clear BR DC L SZ TA
          have hb0_ := hall 0 (by kernel_rfl)
          have hb1_ := hall 1 (by kernel_rfl)
          have hb2_ := hall 2 (by kernel_rfl)
          have hb3_ := hall 3 (by kernel_rfl)
          have hb4_ := hall 4 (by kernel_rfl)
          have hb5_ := hall 5 (by kernel_rfl)
          have hb6_ := hall 6 (by kernel_rfl)
          have hb7_ := hall 7 (by kernel_rfl)
          have hb8_ := hall 8 (by kernel_rfl)
          have hb9_ := hall 9 (by kernel_rfl)
          have hb10_ := hall 10 (by kernel_rfl)
          have hb11_ := hall 11 (by kernel_rfl)
          have hb12_ := hall 12 (by kernel_rfl)
          have hb13_ := hall 13 (by kernel_rfl)
          have hb14_ := hall 14 (by kernel_rfl)
          have hb15_ := hall 15 (by kernel_rfl)
          have hb16_ := hall 16 (by kernel_rfl)
          have hb17_ := hall 17 (by kernel_rfl)
          have hb18_ := hall 18 (by kernel_rfl)
          have hb19_ := hall 19 (by kernel_rfl)
          subst ha
          obtain rfl := Q_X1_ hb1_
          simp only [putSel, hb0_, hb1_, hb2_, hb3_, hb4_, hb5_, hb6_, hb7_, hb8_, hb9_, hb10_, hb11_, hb12_, hb13_, hb14_, hb15_, hb16_, hb17_, hb18_, hb19_, if_true, Act.put, List.setIfInBounds_toArray, List.set_cons_zero, List.set_cons_succ]
          clear Q_L
          have TA := Aside0.mk Q_TA
          clear Q_TA
          have BR := Aside0.mk Q_BR
          clear Q_BR
          have DC := Aside0.mk Q_DC
          clear Q_DC
          have SZ := Aside0.mk Q_SZ
          clear Q_SZ
          clear Q_E1
          have NG := Aside0.mk (Q_NG hb1_)
          clear Q_NG
          have GE := Aside0.mk (Q_GE hb1_)
          clear Q_GE
          clear Q_O1
          have NV := Aside0.mk (Q_NV hb8_)
          clear Q_NV
          have GV := Aside0.mk (Q_GV hb8_)
          clear Q_GV
          clear Q_O2
          have NW := Aside0.mk (Q_NW hb16_)
          clear Q_NW
          have GW := Aside0.mk (Q_GW hb16_)
          clear Q_GW
          have R3 := Aside0.mk (Q_R3 hb19_)
          clear Q_R3
          clear hall hb0_ hb1_ hb2_ hb3_ hb4_ hb5_ hb6_ hb7_ hb8_ hb9_ hb10_ hb11_ hb12_ hb13_ hb14_ hb15_ hb16_ hb17_ hb18_ hb19_
          have d0 : w'.cell? ⟨gc, 0, none⟩ = some (.int .i64 y.src) := DC.out.cell 0
          have d1 : w'.cell? ⟨gc, 1, none⟩ = some (.int .i64 y.dst) := DC.out.cell 1
          have d2 : w'.cell? ⟨gc, 2, none⟩ = some (.string y.txt) := DC.out.cell 2
          have d3 : w'.cell? ⟨gc, 3, none⟩ = some (.int .i64 y.due) := DC.out.cell 3
          have r0 : w'.cell? ⟨gr, 0, none⟩ = some (.int .i64 0) := BR.out.cell 0
          have r1 : w'.cell? ⟨gr, 1, none⟩ = some (.int .i64 0) := BR.out.cell 1
          have r2 : w'.cell? ⟨gr, 2, none⟩ = some (.string ⟨#[]⟩) := BR.out.cell 2
          have f0 := BR.out.frozen 0
          have f1 := BR.out.frozen 1
          have f2 := BR.out.frozen 2
          have BF := Lib.hid (Blk.drew (((BR.out.put 0 (.int .i64 y.src) rfl).put 1 (.int .i64 y.dst) rfl).put 2 (.string y.txt) rfl))
          have T3 := touch3 w' gr 0 1 2 (.int .i64 y.src) (.int .i64 y.dst) (.string y.txt)
          have RF3 := Lib.hid ((R3.out.touch T3 (by rintro i (rfl | h | h) e; exact GRL.out.1 e.symm; (subst e; exact NVS.out h); (subst e; exact NW.out _ (.inr (.inl rfl)) h))).touch (Touch.drewN _ 1 (fun _ => False)) (fun _ _ => id))
          have TF := Lib.hid ((TA.out.then (t := fun i => i = gr) T3 (by rintro i hi rfl; exact absurd hi (by have := GRW.out; omega))).trans (Touch.drewN _ 1 _))
          have GF := Lib.hid GW.out
          clear T3 L0 TA BR DC SZ SZ0 NG GE NV GV NW R3
          go_wp2_with fail
          go_region
          go_wp2_with fail
          refine bodyPost_ret (res_ctt rfl _ _ gr 31 _ _ rfl BF.out rfl Try.underlying31 (by kernel_rfl)) rfl ?_
          refine ⟨y, ?_, rfl, v2, ?_, GF.out, TF.out⟩
          · rw [← MK.out]; exact HY.out
          · rw [← MK.out]; exact RF3.out
      · obtain ⟨sa, hsa⟩ : ∃ sa : Addr, sa = ⟨g, (mk + 1) * 4, none⟩ := ⟨_, rfl⟩
        have hc1 := Aside0.mk (show mk + 1 < cap by have := hlN.out; have := hkc.out; omega)
        clear hcc
        refine start_ (n := 20) (S := fun w' => True) (ds := []) #[false, false, false, false, false, false, false, false, false, false, false, false, false, false, false, false, false, false, false, false] (by kernel_rfl) rfl rfl trivial (fun hHeld => ?_)
        refine with_tabW rfNext.tab10 rfNext.bits10 (fun HT_ HW_ => ?_)
        have L : Aside0 (RF w2.drew l n sent vs (.slice (some ⟨g, 0, none⟩) k cap) scr m) := ⟨L0.out.touch (Touch.drewN w2 1 (fun _ => False)) (fun _ _ => id)⟩
        replace TA : Aside0 (Touch w0 w2.drew (fun k => k = l)) := ⟨TA.out.trans (Touch.drewN w2 1 _)⟩
        replace BR : Aside0 (Blk w2.drew gr #[.int .i64 0, .int .i64 0, .string ⟨#[]⟩] 31) := ⟨BR.out⟩
        replace DC : Aside0 (Blk w2.drew gc #[.int .i64 y.src, .int .i64 y.dst, .string y.txt, .int .i64 y.due] 74) := ⟨DC.out⟩
        have SZ : Aside0 (∀ i, (ownR l vs (.slice (some ⟨g, 0, none⟩) k cap) i ∨ i = gr ∨ i = gc) → i < w2.drew.heap.size) := ⟨SZ0.out⟩
        generalize w2.drew = w1' at *
        refine inv_at [0, 1, 2, 3, 4, 5, 6, 7, 8, 9, 10, 11, 12, 13, 14, 15, 16, 17, 18, 19] (fun a0_ b a w' => ∃ (ge : Nat) (v1 : Value) (v2 : Value) (m1_ : Value), a = putSel a0_ b [(0, 53, .pointer (some ⟨l, 0, none⟩)), (1, 54, m1_), (2, 55, .pointer (some ⟨l, 0, none⟩)), (3, 56, .pointer (some ⟨l, 0, none⟩)), (4, 57, .pointer (some ⟨l, 3, none⟩)), (5, 58, .slice (some ⟨g, 0, none⟩) k cap), (6, 59, .int .i64 (mk : Int)), (7, 60, .slice (some ⟨g, 0, none⟩) mk cap), (8, 61, v1), (9, 62, .pointer (some ⟨l, 0, none⟩)), (10, 63, .pointer (some ⟨l, 0, none⟩)), (11, 64, .pointer (some ⟨l, 3, none⟩)), (12, 65, .slice (some ⟨g, 0, none⟩) k cap), (13, 66, .int .i64 (mk : Int)), (14, 67, .int .i64 ((mk : Int) + 1)), (15, 68, .slice (some ⟨g, (mk + 1) * 4, none⟩) (k - (mk + 1)) (cap - (mk + 1))), (16, 69, v2), (17, 70, .pointer (some ⟨l, 0, none⟩)), (18, 71, .pointer (some ⟨l, 3, none⟩))] ∧ (b 19 = false → RF w' l n sent vs (.slice (some ⟨g, 0, none⟩) k cap) scr m) ∧ (Touch w0 w' (fun k => k = l)) ∧ (Blk w' gr #[.int .i64 0, .int .i64 0, .string ⟨#[]⟩] 31) ∧ (Blk w' gc #[.int .i64 y.src, .int .i64 y.dst, .string y.txt, .int .i64 y.due] 74) ∧ (∀ i, (ownR l vs (.slice (some ⟨g, 0, none⟩) k cap) i ∨ i = gr ∨ i = gc) → i < w'.heap.size) ∧ (b 1 = true → b 8 = false → w'.ownsRow 0 74 4 (.slice (some ⟨ge, 0, none⟩) 0 0) 0 []) ∧ (b 1 = true → ∀ i, (ownR l vs (.slice (some ⟨g, 0, none⟩) k cap) i ∨ i = gr ∨ i = gc) → i ≠ ge) ∧ (b 1 = true → w0.heap.size ≤ ge) ∧ (b 8 = true → b 16 = false → w'.ownsRow 0 74 4 v1 mk (flat4 (m.take mk))) ∧ (b 8 = true → ∀ i, (ownR l vs (.slice (some ⟨g, 0, none⟩) k cap) i ∨ i = gr ∨ i = gc) → v1.ownBlock ≠ some i) ∧ (b 8 = true → ∀ q, v1.ownBlock = some q → w0.heap.size ≤ q) ∧ (b 16 = true → b 19 = false → w'.ownsRow 0 74 4 v2 (m.eraseIdx mk).length (flat4 (m.eraseIdx mk))) ∧ (b 16 = true → ∀ i, (ownR l vs (.slice (some ⟨g, 0, none⟩) k cap) i ∨ i = gr ∨ i = gc) → v2.ownBlock ≠ some i) ∧ (b 16 = true → ∀ q, v2.ownBlock = some q → w0.heap.size ≤ q) ∧ (b 19 = true → RF w' l n sent vs v2 scr (m.eraseIdx mk)) ∧ (b 1 = true → (m1_ : Value) = .slice (some ⟨ge, 0, none⟩) 0 0)) HT_.out HW_.out (by kernel_rfl) (by kernel_rfl) ?_ ?_ ?_
        · exact ⟨0, undef, undef, .bool false, by simp only [putSel, Bool.false_eq_true, if_false], fun _ => L.out, TA.out, BR.out, DC.out, SZ.out, fun h_ => absurd h_ (by decide), fun h_ => absurd h_ (by decide), fun h_ => absurd h_ (by decide), fun h_ => absurd h_ (by decide), fun h_ => absurd h_ (by decide), fun h_ => absurd h_ (by decide), fun h_ => absurd h_ (by decide), fun h_ => absurd h_ (by decide), fun h_ => absurd h_ (by decide), fun h_ => absurd h_ (by decide), fun h_ => absurd h_ (by decide)⟩
        · skip
          clear BR DC L SZ TA
          refine steps_cons ?_ ?_
          · rintro b a w' ⟨ge, v1, v2, m1_, ha, Q_L, Q_TA, Q_BR, Q_DC, Q_SZ, Q_E1, Q_NG, Q_GE, Q_O1, Q_NV, Q_GV, Q_O2, Q_NW, Q_GW, Q_R3, Q_X1_⟩ hb_ hon hoff
            refine ⟨_, rfl, fun K hK => ?_⟩
            have e0 : a.tmps[0]? = some (.pointer (some ⟨l, 0, none⟩)) := by rw [ha]; exact (putSel_off rfl).trans rfl
            replace ha := Aside0.mk ha
            have L := Aside0.mk (Q_L (hoff 19 (by kernel_rfl)))
            have TA := Aside0.mk Q_TA
            have BR := Aside0.mk Q_BR
            have DC := Aside0.mk Q_DC
            have SZ := Aside0.mk Q_SZ
            refine value_ (w1 := w') (v := .pointer (some ⟨l, 0, none⟩)) (by rfl) rfl ?_ ?_
            · go_simp
              (try simp only [i64_w])
              try rfl
            refine hK.out _ _ ⟨ge, v1, v2, m1_, (by rw [ha.out]; exact putSel_upk 0 hb_ rfl rfl rfl), Q_L, Q_TA, Q_BR, Q_DC, Q_SZ, Q_E1, Q_NG, Q_GE, Q_O1, Q_NV, Q_GV, Q_O2, Q_NW, Q_GW, fun h0_ => absurd ((hoff 19 (by kernel_rfl)).symm.trans h0_) (by decide), Q_X1_⟩
          refine steps_cons ?_ ?_
          · rintro b a w' ⟨ge, v1, v2, m1_, ha, Q_L, Q_TA, Q_BR, Q_DC, Q_SZ, Q_E1, Q_NG, Q_GE, Q_O1, Q_NV, Q_GV, Q_O2, Q_NW, Q_GW, Q_R3, Q_X1_⟩ hb_ hon hoff
            refine ⟨_, rfl, fun K hK => ?_⟩
            replace ha := Aside0.mk ha
            have L := Aside0.mk (Q_L (hoff 19 (by kernel_rfl)))
            have TA := Aside0.mk Q_TA
            have BR := Aside0.mk Q_BR
            have DC := Aside0.mk Q_DC
            have SZ := Aside0.mk Q_SZ
            refine value_ (w1 := w'.alloc (.cells #[] 74)) (v := .slice (some ⟨w'.heap.size, 0, none⟩) 0 0) (by rfl) rfl ?_ ?_
            · go_simp
            refine hK.out _ _ ⟨w'.heap.size, v1, v2, (.slice (some ⟨w'.heap.size, 0, none⟩) 0 0), (by rw [ha.out]; exact putSel_upk 1 hb_ rfl rfl rfl), fun _ => L.out.touch (Touch.alloc w' _ (fun _ => False)) (fun _ _ => id), TA.out.trans (Touch.alloc w' _ _), BR.out.alloc _, DC.out.alloc _, fun i h => by have := SZ.out i h; simp; omega, fun _ _ => ⟨rfl, .inr ⟨w'.heap.size, 0, #[], rfl, Nat.zero_le _, Blk.new w' _ _ rfl, Nat.le_refl _, Nat.zero_le _, rfl, rfl⟩⟩, fun _ => fun i h e => by have := SZ.out i h; omega, fun _ => TA.out.size, fun h0_ _ => absurd ((hoff 8 (by kernel_rfl)).symm.trans h0_) (by decide), fun h0_ => absurd ((hoff 8 (by kernel_rfl)).symm.trans h0_) (by decide), fun h0_ => absurd ((hoff 8 (by kernel_rfl)).symm.trans h0_) (by decide), fun h0_ _ => absurd ((hoff 16 (by kernel_rfl)).symm.trans h0_) (by decide), fun h0_ => absurd ((hoff 16 (by kernel_rfl)).symm.trans h0_) (by decide), fun h0_ => absurd ((hoff 16 (by kernel_rfl)).symm.trans h0_) (by decide), fun h0_ => absurd ((hoff 19 (by kernel_rfl)).symm.trans h0_) (by decide), fun _ => rfl⟩
          refine steps_cons ?_ ?_
          · rintro b a w' ⟨ge, v1, v2, m1_, ha, Q_L, Q_TA, Q_BR, Q_DC, Q_SZ, Q_E1, Q_NG, Q_GE, Q_O1, Q_NV, Q_GV, Q_O2, Q_NW, Q_GW, Q_R3, Q_X1_⟩ hb_ hon hoff
            refine ⟨_, rfl, fun K hK => ?_⟩
            have e0 : a.tmps[0]? = some (.pointer (some ⟨l, 0, none⟩)) := by rw [ha]; exact (putSel_off rfl).trans rfl
            replace ha := Aside0.mk ha
            have L := Aside0.mk (Q_L (hoff 19 (by kernel_rfl)))
            have TA := Aside0.mk Q_TA
            have BR := Aside0.mk Q_BR
            have DC := Aside0.mk Q_DC
            have SZ := Aside0.mk Q_SZ
            refine value_ (w1 := w') (v := .pointer (some ⟨l, 0, none⟩)) (by rfl) rfl ?_ ?_
            · go_simp
              (try simp only [i64_w])
              try rfl
            refine hK.out _ _ ⟨ge, v1, v2, m1_, (by rw [ha.out]; exact putSel_upk 2 hb_ rfl rfl rfl), Q_L, Q_TA, Q_BR, Q_DC, Q_SZ, Q_E1, Q_NG, Q_GE, fun h0_ _ => absurd ((hoff 8 (by kernel_rfl)).symm.trans h0_) (by decide), fun h0_ => absurd ((hoff 8 (by kernel_rfl)).symm.trans h0_) (by decide), fun h0_ => absurd ((hoff 8 (by kernel_rfl)).symm.trans h0_) (by decide), fun h0_ _ => absurd ((hoff 16 (by kernel_rfl)).symm.trans h0_) (by decide), fun h0_ => absurd ((hoff 16 (by kernel_rfl)).symm.trans h0_) (by decide), fun h0_ => absurd ((hoff 16 (by kernel_rfl)).symm.trans h0_) (by decide), fun h0_ => absurd ((hoff 19 (by kernel_rfl)).symm.trans h0_) (by decide), Q_X1_⟩
          refine steps_cons ?_ ?_
          · rintro b a w' ⟨ge, v1, v2, m1_, ha, Q_L, Q_TA, Q_BR, Q_DC, Q_SZ, Q_E1, Q_NG, Q_GE, Q_O1, Q_NV, Q_GV, Q_O2, Q_NW, Q_GW, Q_R3, Q_X1_⟩ hb_ hon hoff
            refine ⟨_, rfl, fun K hK => ?_⟩
            have e55 : a.tmps[55]? = some (.pointer (some ⟨l, 0, none⟩)) := by rw [ha]; exact putSel_on (e := (2, 55, .pointer (some ⟨l, 0, none⟩))) 2 rfl rfl (hon 2 (by kernel_rfl)) rfl
            replace ha := Aside0.mk ha
            have L := Aside0.mk (Q_L (hoff 19 (by kernel_rfl)))
            have TA := Aside0.mk Q_TA
            have BR := Aside0.mk Q_BR
            have DC := Aside0.mk Q_DC
            have SZ := Aside0.mk Q_SZ
            refine value_ (w1 := w') (v := .pointer (some ⟨l, 0, none⟩)) (by rfl) rfl ?_ ?_
            · go_simp
              (try simp only [i64_w])
              try rfl
            refine hK.out _ _ ⟨ge, v1, v2, m1_, (by rw [ha.out]; exact putSel_upk 3 hb_ rfl rfl rfl), Q_L, Q_TA, Q_BR, Q_DC, Q_SZ, Q_E1, Q_NG, Q_GE, fun h0_ _ => absurd ((hoff 8 (by kernel_rfl)).symm.trans h0_) (by decide), fun h0_ => absurd ((hoff 8 (by kernel_rfl)).symm.trans h0_) (by decide), fun h0_ => absurd ((hoff 8 (by kernel_rfl)).symm.trans h0_) (by decide), fun h0_ _ => absurd ((hoff 16 (by kernel_rfl)).symm.trans h0_) (by decide), fun h0_ => absurd ((hoff 16 (by kernel_rfl)).symm.trans h0_) (by decide), fun h0_ => absurd ((hoff 16 (by kernel_rfl)).symm.trans h0_) (by decide), fun h0_ => absurd ((hoff 19 (by kernel_rfl)).symm.trans h0_) (by decide), Q_X1_⟩
          refine steps_cons ?_ ?_
          · rintro b a w' ⟨ge, v1, v2, m1_, ha, Q_L, Q_TA, Q_BR, Q_DC, Q_SZ, Q_E1, Q_NG, Q_GE, Q_O1, Q_NV, Q_GV, Q_O2, Q_NW, Q_GW, Q_R3, Q_X1_⟩ hb_ hon hoff
            refine ⟨_, rfl, fun K hK => ?_⟩
            have e56 : a.tmps[56]? = some (.pointer (some ⟨l, 0, none⟩)) := by rw [ha]; exact putSel_on (e := (3, 56, .pointer (some ⟨l, 0, none⟩))) 3 rfl rfl (hon 3 (by kernel_rfl)) rfl
            replace ha := Aside0.mk ha
            have L := Aside0.mk (Q_L (hoff 19 (by kernel_rfl)))
            have TA := Aside0.mk Q_TA
            have BR := Aside0.mk Q_BR
            have DC := Aside0.mk Q_DC
            have SZ := Aside0.mk Q_SZ
            refine value_ (w1 := w') (v := .pointer (some ⟨l, 3, none⟩)) (by rfl) rfl ?_ ?_
            · go_simp
              (try simp only [i64_w])
              try rfl
            refine hK.out _ _ ⟨ge, v1, v2, m1_, (by rw [ha.out]; exact putSel_upk 4 hb_ rfl rfl rfl), Q_L, Q_TA, Q_BR, Q_DC, Q_SZ, Q_E1, Q_NG, Q_GE, fun h0_ _ => absurd ((hoff 8 (by kernel_rfl)).symm.trans h0_) (by decide), fun h0_ => absurd ((hoff 8 (by kernel_rfl)).symm.trans h0_) (by decide), fun h0_ => absurd ((hoff 8 (by kernel_rfl)).symm.trans h0_) (by decide), fun h0_ _ => absurd ((hoff 16 (by kernel_rfl)).symm.trans h0_) (by decide), fun h0_ => absurd ((hoff 16 (by kernel_rfl)).symm.trans h0_) (by decide), fun h0_ => absurd ((hoff 16 (by kernel_rfl)).symm.trans h0_) (by decide), fun h0_ => absurd ((hoff 19 (by kernel_rfl)).symm.trans h0_) (by decide), Q_X1_⟩
          refine steps_cons ?_ ?_
          · rintro b a w' ⟨ge, v1, v2, m1_, ha, Q_L, Q_TA, Q_BR, Q_DC, Q_SZ, Q_E1, Q_NG, Q_GE, Q_O1, Q_NV, Q_GV, Q_O2, Q_NW, Q_GW, Q_R3, Q_X1_⟩ hb_ hon hoff
            refine ⟨_, rfl, fun K hK => ?_⟩
            have e57 : a.tmps[57]? = some (.pointer (some ⟨l, 3, none⟩)) := by rw [ha]; exact putSel_on (e := (4, 57, .pointer (some ⟨l, 3, none⟩))) 4 rfl rfl (hon 4 (by kernel_rfl)) rfl
            replace ha := Aside0.mk ha
            have L := Aside0.mk (Q_L (hoff 19 (by kernel_rfl)))
            have TA := Aside0.mk Q_TA
            have BR := Aside0.mk Q_BR
            have DC := Aside0.mk Q_DC
            have SZ := Aside0.mk Q_SZ
            have c0 : w'.cell? ⟨l, 3, none⟩ = some (.slice (some ⟨g, 0, none⟩) k cap) := L.out.cell.cell 3
            refine value_ (w1 := w') (v := .slice (some ⟨g, 0, none⟩) k cap) (by rfl) rfl ?_ ?_
            · go_simp
              (try simp only [i64_w])
              try rfl
            refine hK.out _ _ ⟨ge, v1, v2, m1_, (by rw [ha.out]; exact putSel_upk 5 hb_ rfl rfl rfl), Q_L, Q_TA, Q_BR, Q_DC, Q_SZ, Q_E1, Q_NG, Q_GE, fun h0_ _ => absurd ((hoff 8 (by kernel_rfl)).symm.trans h0_) (by decide), fun h0_ => absurd ((hoff 8 (by kernel_rfl)).symm.trans h0_) (by decide), fun h0_ => absurd ((hoff 8 (by kernel_rfl)).symm.trans h0_) (by decide), fun h0_ _ => absurd ((hoff 16 (by kernel_rfl)).symm.trans h0_) (by decide), fun h0_ => absurd ((hoff 16 (by kernel_rfl)).symm.trans h0_) (by decide), fun h0_ => absurd ((hoff 16 (by kernel_rfl)).symm.trans h0_) (by decide), fun h0_ => absurd ((hoff 19 (by kernel_rfl)).symm.trans h0_) (by decide), Q_X1_⟩
          refine steps_cons ?_ ?_
          · rintro b a w' ⟨ge, v1, v2, m1_, ha, Q_L, Q_TA, Q_BR, Q_DC, Q_SZ, Q_E1, Q_NG, Q_GE, Q_O1, Q_NV, Q_GV, Q_O2, Q_NW, Q_GW, Q_R3, Q_X1_⟩ hb_ hon hoff
            refine ⟨_, rfl, fun K hK => ?_⟩
            have e5 : a.tmps[5]? = some (.int .i64 (mk : Int)) := by rw [ha]; exact (putSel_off rfl).trans rfl
            replace ha := Aside0.mk ha
            have L := Aside0.mk (Q_L (hoff 19 (by kernel_rfl)))
            have TA := Aside0.mk Q_TA
            have BR := Aside0.mk Q_BR
            have DC := Aside0.mk Q_DC
            have SZ := Aside0.mk Q_SZ
            refine value_ (w1 := w') (v := .int .i64 (mk : Int)) (by rfl) rfl ?_ ?_
            · go_simp
              (try simp only [i64_w])
              try rfl
            refine hK.out _ _ ⟨ge, v1, v2, m1_, (by rw [ha.out]; exact putSel_upk 6 hb_ rfl rfl rfl), Q_L, Q_TA, Q_BR, Q_DC, Q_SZ, Q_E1, Q_NG, Q_GE, fun h0_ _ => absurd ((hoff 8 (by kernel_rfl)).symm.trans h0_) (by decide), fun h0_ => absurd ((hoff 8 (by kernel_rfl)).symm.trans h0_) (by decide), fun h0_ => absurd ((hoff 8 (by kernel_rfl)).symm.trans h0_) (by decide), fun h0_ _ => absurd ((hoff 16 (by kernel_rfl)).symm.trans h0_) (by decide), fun h0_ => absurd ((hoff 16 (by kernel_rfl)).symm.trans h0_) (by decide), fun h0_ => absurd ((hoff 16 (by kernel_rfl)).symm.trans h0_) (by decide), fun h0_ => absurd ((hoff 19 (by kernel_rfl)).symm.trans h0_) (by decide), Q_X1_⟩
          refine steps_cons ?_ ?_
          · rintro b a w' ⟨ge, v1, v2, m1_, ha, Q_L, Q_TA, Q_BR, Q_DC, Q_SZ, Q_E1, Q_NG, Q_GE, Q_O1, Q_NV, Q_GV, Q_O2, Q_NW, Q_GW, Q_R3, Q_X1_⟩ hb_ hon hoff
            refine ⟨_, rfl, fun K hK => ?_⟩
            have e58 : a.tmps[58]? = some (.slice (some ⟨g, 0, none⟩) k cap) := by rw [ha]; exact putSel_on (e := (5, 58, .slice (some ⟨g, 0, none⟩) k cap)) 5 rfl rfl (hon 5 (by kernel_rfl)) rfl
            have e59 : a.tmps[59]? = some (.int .i64 (mk : Int)) := by rw [ha]; exact putSel_on (e := (6, 59, .int .i64 (mk : Int))) 6 rfl rfl (hon 6 (by kernel_rfl)) rfl
            replace ha := Aside0.mk ha
            have L := Aside0.mk (Q_L (hoff 19 (by kernel_rfl)))
            have TA := Aside0.mk Q_TA
            have BR := Aside0.mk Q_BR
            have DC := Aside0.mk Q_DC
            have SZ := Aside0.mk Q_SZ
            have y0 : (0 : Int) ≤ (mk : Int) := by omega
            have y1 : (mk : Int) ≤ (cap : Int) := by have := hlN.out; have := hkc.out; omega
            refine value_ (w1 := w') (v := .slice (some ⟨g, 0, none⟩) mk cap) (by rfl) rfl ?_ ?_
            · go_simp
              (try simp only [i64_w])
              try rfl
            refine hK.out _ _ ⟨ge, v1, v2, m1_, (by rw [ha.out]; exact putSel_upk 7 hb_ rfl rfl rfl), Q_L, Q_TA, Q_BR, Q_DC, Q_SZ, Q_E1, Q_NG, Q_GE, fun h0_ _ => absurd ((hoff 8 (by kernel_rfl)).symm.trans h0_) (by decide), fun h0_ => absurd ((hoff 8 (by kernel_rfl)).symm.trans h0_) (by decide), fun h0_ => absurd ((hoff 8 (by kernel_rfl)).symm.trans h0_) (by decide), fun h0_ _ => absurd ((hoff 16 (by kernel_rfl)).symm.trans h0_) (by decide), fun h0_ => absurd ((hoff 16 (by kernel_rfl)).symm.trans h0_) (by decide), fun h0_ => absurd ((hoff 16 (by kernel_rfl)).symm.trans h0_) (by decide), fun h0_ => absurd ((hoff 19 (by kernel_rfl)).symm.trans h0_) (by decide), Q_X1_⟩
          refine steps_cons ?_ ?_
          · rintro b a w' ⟨ge, v1, v2, m1_, ha, Q_L, Q_TA, Q_BR, Q_DC, Q_SZ, Q_E1, Q_NG, Q_GE, Q_O1, Q_NV, Q_GV, Q_O2, Q_NW, Q_GW, Q_R3, Q_X1_⟩ hb_ hon hoff
            refine ⟨_, rfl, fun K hK => ?_⟩
            have e54 : a.tmps[54]? = some (m1_) := by rw [ha]; exact putSel_on (e := (1, 54, m1_)) 1 rfl rfl (hon 1 (by kernel_rfl)) rfl
            rw [Q_X1_ (hon 1 (by kernel_rfl))] at e54
            have e60 : a.tmps[60]? = some (.slice (some ⟨g, 0, none⟩) mk cap) := by rw [ha]; exact putSel_on (e := (7, 60, .slice (some ⟨g, 0, none⟩) mk cap)) 7 rfl rfl (hon 7 (by kernel_rfl)) rfl
            replace ha := Aside0.mk ha
            have L := Aside0.mk (Q_L (hoff 19 (by kernel_rfl)))
            have TA := Aside0.mk Q_TA
            have BR := Aside0.mk Q_BR
            have DC := Aside0.mk Q_DC
            have SZ := Aside0.mk Q_SZ
            have E1 := Aside0.mk (Q_E1 (hon 1 (by kernel_rfl)) hb_)
            have NG := Aside0.mk (Q_NG (hon 1 (by kernel_rfl)))
            have GE := Aside0.mk (Q_GE (hon 1 (by kernel_rfl)))
            have hw : ∀ j u, (flat4 (m.take mk))[j]? = some u → w'.cell? ((⟨g, 0, none⟩ : Addr).add j) = some u := by
              intro j u hu
              have e : flat4 m = flat4 (m.take mk) ++ flat4 (m.drop mk) := by rw [← flat4_append, List.take_append_drop]
              exact L.out.wait.cells (g := g) rfl j u (by rw [e, List.getElem?_append_left (List.getElem?_eq_some_iff.1 hu).1]; exact hu)
            obtain ⟨vv, w2, hr, o1, o2, o3⟩ := append_many (P := Try.prog) w' Try.underlying66 infoC rfl (by decide) _ 0 [] E1.out ⟨g, 0, none⟩ mk cap (flat4 (m.take mk)) (by rw [flat4_length, List.length_take, Nat.min_eq_left (by rw [← HNA.out]; exact Nat.le_of_lt hlN.out)]) hw (flat4_one _) (by have := hlN.out; have := hk9.out; omega) (by decide)
            refine value_ (w1 := w2) (v := vv) (by rfl) rfl ?_ ?_
            · exact run_append_op (by rfl) e54 e60 hr
            have tt := Touch.of_grownBy o2
            refine hK.out _ _ ⟨ge, vv, v2, m1_, (by rw [ha.out]; exact putSel_upk 8 hb_ rfl rfl rfl), fun _ => L.out.touch tt (fun i h => by intro e; cases e; exact NG.out _ (.inl h) rfl), TA.out.then tt (by rintro i hi e; exact absurd hi (by cases e; exact Nat.not_lt.2 GE.out)), tt.blk BR.out (by intro e; cases e; exact NG.out _ (.inr (.inl rfl)) rfl), tt.blk DC.out (by intro e; cases e; exact NG.out _ (.inr (.inr rfl)) rfl), fun i h => Nat.lt_of_lt_of_le (SZ.out i h) tt.size, fun _ h1_ => absurd ((up_self b 8).symm.trans h1_) (by decide), Q_NG, Q_GE, fun _ _ => (by simpa using o1), fun _ => fun i h e => by rcases o3 with e2 | ⟨q, e2, e3⟩; (rw [e] at e2; cases e2; exact NG.out _ h rfl); (rw [e] at e2; cases e2; have := SZ.out _ h; omega), fun _ => fun q h => by rcases o3 with e2 | ⟨q', e2, e3⟩; (rw [h] at e2; cases e2; exact GE.out); (rw [h] at e2; cases e2; exact Nat.le_trans TA.out.size e3), fun h0_ _ => absurd ((hoff 16 (by kernel_rfl)).symm.trans h0_) (by decide), fun h0_ => absurd ((hoff 16 (by kernel_rfl)).symm.trans h0_) (by decide), fun h0_ => absurd ((hoff 16 (by kernel_rfl)).symm.trans h0_) (by decide), fun h0_ => absurd ((hoff 19 (by kernel_rfl)).symm.trans h0_) (by decide), Q_X1_⟩
          refine steps_cons ?_ ?_
          · rintro b a w' ⟨ge, v1, v2, m1_, ha, Q_L, Q_TA, Q_BR, Q_DC, Q_SZ, Q_E1, Q_NG, Q_GE, Q_O1, Q_NV, Q_GV, Q_O2, Q_NW, Q_GW, Q_R3, Q_X1_⟩ hb_ hon hoff
            refine ⟨_, rfl, fun K hK => ?_⟩
            have e0 : a.tmps[0]? = some (.pointer (some ⟨l, 0, none⟩)) := by rw [ha]; exact (putSel_off rfl).trans rfl
            replace ha := Aside0.mk ha
            have L := Aside0.mk (Q_L (hoff 19 (by kernel_rfl)))
            have TA := Aside0.mk Q_TA
            have BR := Aside0.mk Q_BR
            have DC := Aside0.mk Q_DC
            have SZ := Aside0.mk Q_SZ
            refine value_ (w1 := w') (v := .pointer (some ⟨l, 0, none⟩)) (by rfl) rfl ?_ ?_
            · go_simp
              (try simp only [i64_w])
              try rfl
            refine hK.out _ _ ⟨ge, v1, v2, m1_, (by rw [ha.out]; exact putSel_upk 9 hb_ rfl rfl rfl), Q_L, Q_TA, Q_BR, Q_DC, Q_SZ, Q_E1, Q_NG, Q_GE, Q_O1, Q_NV, Q_GV, fun h0_ _ => absurd ((hoff 16 (by kernel_rfl)).symm.trans h0_) (by decide), fun h0_ => absurd ((hoff 16 (by kernel_rfl)).symm.trans h0_) (by decide), fun h0_ => absurd ((hoff 16 (by kernel_rfl)).symm.trans h0_) (by decide), fun h0_ => absurd ((hoff 19 (by kernel_rfl)).symm.trans h0_) (by decide), Q_X1_⟩
          refine steps_cons ?_ ?_
          · rintro b a w' ⟨ge, v1, v2, m1_, ha, Q_L, Q_TA, Q_BR, Q_DC, Q_SZ, Q_E1, Q_NG, Q_GE, Q_O1, Q_NV, Q_GV, Q_O2, Q_NW, Q_GW, Q_R3, Q_X1_⟩ hb_ hon hoff
            refine ⟨_, rfl, fun K hK => ?_⟩
            have e62 : a.tmps[62]? = some (.pointer (some ⟨l, 0, none⟩)) := by rw [ha]; exact putSel_on (e := (9, 62, .pointer (some ⟨l, 0, none⟩))) 9 rfl rfl (hon 9 (by kernel_rfl)) rfl
            replace ha := Aside0.mk ha
            have L := Aside0.mk (Q_L (hoff 19 (by kernel_rfl)))
            have TA := Aside0.mk Q_TA
            have BR := Aside0.mk Q_BR
            have DC := Aside0.mk Q_DC
            have SZ := Aside0.mk Q_SZ
            refine value_ (w1 := w') (v := .pointer (some ⟨l, 0, none⟩)) (by rfl) rfl ?_ ?_
            · go_simp
              (try simp only [i64_w])
              try rfl
            refine hK.out _ _ ⟨ge, v1, v2, m1_, (by rw [ha.out]; exact putSel_upk 10 hb_ rfl rfl rfl), Q_L, Q_TA, Q_BR, Q_DC, Q_SZ, Q_E1, Q_NG, Q_GE, Q_O1, Q_NV, Q_GV, fun h0_ _ => absurd ((hoff 16 (by kernel_rfl)).symm.trans h0_) (by decide), fun h0_ => absurd ((hoff 16 (by kernel_rfl)).symm.trans h0_) (by decide), fun h0_ => absurd ((hoff 16 (by kernel_rfl)).symm.trans h0_) (by decide), fun h0_ => absurd ((hoff 19 (by kernel_rfl)).symm.trans h0_) (by decide), Q_X1_⟩
          refine steps_cons ?_ ?_
          · rintro b a w' ⟨ge, v1, v2, m1_, ha, Q_L, Q_TA, Q_BR, Q_DC, Q_SZ, Q_E1, Q_NG, Q_GE, Q_O1, Q_NV, Q_GV, Q_O2, Q_NW, Q_GW, Q_R3, Q_X1_⟩ hb_ hon hoff
            refine ⟨_, rfl, fun K hK => ?_⟩
            have e63 : a.tmps[63]? = some (.pointer (some ⟨l, 0, none⟩)) := by rw [ha]; exact putSel_on (e := (10, 63, .pointer (some ⟨l, 0, none⟩))) 10 rfl rfl (hon 10 (by kernel_rfl)) rfl
            replace ha := Aside0.mk ha
            have L := Aside0.mk (Q_L (hoff 19 (by kernel_rfl)))
            have TA := Aside0.mk Q_TA
            have BR := Aside0.mk Q_BR
            have DC := Aside0.mk Q_DC
            have SZ := Aside0.mk Q_SZ
            refine value_ (w1 := w') (v := .pointer (some ⟨l, 3, none⟩)) (by rfl) rfl ?_ ?_
            · go_simp
              (try simp only [i64_w])
              try rfl
            refine hK.out _ _ ⟨ge, v1, v2, m1_, (by rw [ha.out]; exact putSel_upk 11 hb_ rfl rfl rfl), Q_L, Q_TA, Q_BR, Q_DC, Q_SZ, Q_E1, Q_NG, Q_GE, Q_O1, Q_NV, Q_GV, fun h0_ _ => absurd ((hoff 16 (by kernel_rfl)).symm.trans h0_) (by decide), fun h0_ => absurd ((hoff 16 (by kernel_rfl)).symm.trans h0_) (by decide), fun h0_ => absurd ((hoff 16 (by kernel_rfl)).symm.trans h0_) (by decide), fun h0_ => absurd ((hoff 19 (by kernel_rfl)).symm.trans h0_) (by decide), Q_X1_⟩
          refine steps_cons ?_ ?_
          · rintro b a w' ⟨ge, v1, v2, m1_, ha, Q_L, Q_TA, Q_BR, Q_DC, Q_SZ, Q_E1, Q_NG, Q_GE, Q_O1, Q_NV, Q_GV, Q_O2, Q_NW, Q_GW, Q_R3, Q_X1_⟩ hb_ hon hoff
            refine ⟨_, rfl, fun K hK => ?_⟩
            have e64 : a.tmps[64]? = some (.pointer (some ⟨l, 3, none⟩)) := by rw [ha]; exact putSel_on (e := (11, 64, .pointer (some ⟨l, 3, none⟩))) 11 rfl rfl (hon 11 (by kernel_rfl)) rfl
            replace ha := Aside0.mk ha
            have L := Aside0.mk (Q_L (hoff 19 (by kernel_rfl)))
            have TA := Aside0.mk Q_TA
            have BR := Aside0.mk Q_BR
            have DC := Aside0.mk Q_DC
            have SZ := Aside0.mk Q_SZ
            have c0 : w'.cell? ⟨l, 3, none⟩ = some (.slice (some ⟨g, 0, none⟩) k cap) := L.out.cell.cell 3
            refine value_ (w1 := w') (v := .slice (some ⟨g, 0, none⟩) k cap) (by rfl) rfl ?_ ?_
            · go_simp
              (try simp only [i64_w])
              try rfl
            refine hK.out _ _ ⟨ge, v1, v2, m1_, (by rw [ha.out]; exact putSel_upk 12 hb_ rfl rfl rfl), Q_L, Q_TA, Q_BR, Q_DC, Q_SZ, Q_E1, Q_NG, Q_GE, Q_O1, Q_NV, Q_GV, fun h0_ _ => absurd ((hoff 16 (by kernel_rfl)).symm.trans h0_) (by decide), fun h0_ => absurd ((hoff 16 (by kernel_rfl)).symm.trans h0_) (by decide), fun h0_ => absurd ((hoff 16 (by kernel_rfl)).symm.trans h0_) (by decide), fun h0_ => absurd ((hoff 19 (by kernel_rfl)).symm.trans h0_) (by decide), Q_X1_⟩
          refine steps_cons ?_ ?_
          · rintro b a w' ⟨ge, v1, v2, m1_, ha, Q_L, Q_TA, Q_BR, Q_DC, Q_SZ, Q_E1, Q_NG, Q_GE, Q_O1, Q_NV, Q_GV, Q_O2, Q_NW, Q_GW, Q_R3, Q_X1_⟩ hb_ hon hoff
            refine ⟨_, rfl, fun K hK => ?_⟩
            have e5 : a.tmps[5]? = some (.int .i64 (mk : Int)) := by rw [ha]; exact (putSel_off rfl).trans rfl
            replace ha := Aside0.mk ha
            have L := Aside0.mk (Q_L (hoff 19 (by kernel_rfl)))
            have TA := Aside0.mk Q_TA
            have BR := Aside0.mk Q_BR
            have DC := Aside0.mk Q_DC
            have SZ := Aside0.mk Q_SZ
            refine value_ (w1 := w') (v := .int .i64 (mk : Int)) (by rfl) rfl ?_ ?_
            · go_simp
              (try simp only [i64_w])
              try rfl
            refine hK.out _ _ ⟨ge, v1, v2, m1_, (by rw [ha.out]; exact putSel_upk 13 hb_ rfl rfl rfl), Q_L, Q_TA, Q_BR, Q_DC, Q_SZ, Q_E1, Q_NG, Q_GE, Q_O1, Q_NV, Q_GV, fun h0_ _ => absurd ((hoff 16 (by kernel_rfl)).symm.trans h0_) (by decide), fun h0_ => absurd ((hoff 16 (by kernel_rfl)).symm.trans h0_) (by decide), fun h0_ => absurd ((hoff 16 (by kernel_rfl)).symm.trans h0_) (by decide), fun h0_ => absurd ((hoff 19 (by kernel_rfl)).symm.trans h0_) (by decide), Q_X1_⟩
          refine steps_cons ?_ ?_
          · rintro b a w' ⟨ge, v1, v2, m1_, ha, Q_L, Q_TA, Q_BR, Q_DC, Q_SZ, Q_E1, Q_NG, Q_GE, Q_O1, Q_NV, Q_GV, Q_O2, Q_NW, Q_GW, Q_R3, Q_X1_⟩ hb_ hon hoff
            refine ⟨_, rfl, fun K hK => ?_⟩
            have e66 : a.tmps[66]? = some (.int .i64 (mk : Int)) := by rw [ha]; exact putSel_on (e := (13, 66, .int .i64 (mk : Int))) 13 rfl rfl (hon 13 (by kernel_rfl)) rfl
            replace ha := Aside0.mk ha
            have L := Aside0.mk (Q_L (hoff 19 (by kernel_rfl)))
            have TA := Aside0.mk Q_TA
            have BR := Aside0.mk Q_BR
            have DC := Aside0.mk Q_DC
            have SZ := Aside0.mk Q_SZ
            have y2 : IntKind.i64.wrap ((mk : Int) + 1) = (mk : Int) + 1 := IntWalk.i64_in _ (by have := hlN.out; have := hk9.out; omega)
            refine value_ (w1 := w') (v := .int .i64 ((mk : Int) + 1)) (by rfl) rfl ?_ ?_
            · go_simp
              (try simp only [i64_w])
              try rfl
            refine hK.out _ _ ⟨ge, v1, v2, m1_, (by rw [ha.out]; exact putSel_upk 14 hb_ rfl rfl rfl), Q_L, Q_TA, Q_BR, Q_DC, Q_SZ, Q_E1, Q_NG, Q_GE, Q_O1, Q_NV, Q_GV, fun h0_ _ => absurd ((hoff 16 (by kernel_rfl)).symm.trans h0_) (by decide), fun h0_ => absurd ((hoff 16 (by kernel_rfl)).symm.trans h0_) (by decide), fun h0_ => absurd ((hoff 16 (by kernel_rfl)).symm.trans h0_) (by decide), fun h0_ => absurd ((hoff 19 (by kernel_rfl)).symm.trans h0_) (by decide), Q_X1_⟩
          refine steps_cons ?_ ?_
          · rintro b a w' ⟨ge, v1, v2, m1_, ha, Q_L, Q_TA, Q_BR, Q_DC, Q_SZ, Q_E1, Q_NG, Q_GE, Q_O1, Q_NV, Q_GV, Q_O2, Q_NW, Q_GW, Q_R3, Q_X1_⟩ hb_ hon hoff
            refine ⟨_, rfl, fun K hK => ?_⟩
            have e65 : a.tmps[65]? = some (.slice (some ⟨g, 0, none⟩) k cap) := by rw [ha]; exact putSel_on (e := (12, 65, .slice (some ⟨g, 0, none⟩) k cap)) 12 rfl rfl (hon 12 (by kernel_rfl)) rfl
            have e67 : a.tmps[67]? = some (.int .i64 ((mk : Int) + 1)) := by rw [ha]; exact putSel_on (e := (14, 67, .int .i64 ((mk : Int) + 1))) 14 rfl rfl (hon 14 (by kernel_rfl)) rfl
            replace ha := Aside0.mk ha
            have L := Aside0.mk (Q_L (hoff 19 (by kernel_rfl)))
            have TA := Aside0.mk Q_TA
            have BR := Aside0.mk Q_BR
            have DC := Aside0.mk Q_DC
            have SZ := Aside0.mk Q_SZ
            have y0 : (0 : Int) ≤ (mk : Int) + 1 := by omega
            have y1 : (mk : Int) + 1 ≤ (k : Int) := by have := hlN.out; omega
            have y2 : (k : Int) ≤ (cap : Int) := by have := hkc.out; omega
            have y3 : ¬ (mk + 1 = cap) := by have := hc1.out; omega
            have y4 : mk + 1 < cap := hc1.out
            have y5 : ¬ (cap = mk + 1) := by have := hc1.out; omega
            refine value_ (w1 := w') (v := .slice (some ⟨g, (mk + 1) * 4, none⟩) (k - (mk + 1)) (cap - (mk + 1))) (by rfl) rfl ?_ ?_
            · go_simp
              (try simp only [i64_w])
              try rfl
            refine hK.out _ _ ⟨ge, v1, v2, m1_, (by rw [ha.out]; exact putSel_upk 15 hb_ rfl rfl rfl), Q_L, Q_TA, Q_BR, Q_DC, Q_SZ, Q_E1, Q_NG, Q_GE, Q_O1, Q_NV, Q_GV, fun h0_ _ => absurd ((hoff 16 (by kernel_rfl)).symm.trans h0_) (by decide), fun h0_ => absurd ((hoff 16 (by kernel_rfl)).symm.trans h0_) (by decide), fun h0_ => absurd ((hoff 16 (by kernel_rfl)).symm.trans h0_) (by decide), fun h0_ => absurd ((hoff 19 (by kernel_rfl)).symm.trans h0_) (by decide), Q_X1_⟩
          refine steps_cons ?_ ?_
          · rintro b a w' ⟨ge, v1, v2, m1_, ha, Q_L, Q_TA, Q_BR, Q_DC, Q_SZ, Q_E1, Q_NG, Q_GE, Q_O1, Q_NV, Q_GV, Q_O2, Q_NW, Q_GW, Q_R3, Q_X1_⟩ hb_ hon hoff
            refine ⟨_, rfl, fun K hK => ?_⟩
            have e61 : a.tmps[61]? = some (v1) := by rw [ha]; exact putSel_on (e := (8, 61, v1)) 8 rfl rfl (hon 8 (by kernel_rfl)) rfl
            have e68 : a.tmps[68]? = some (.slice (some ⟨g, (mk + 1) * 4, none⟩) (k - (mk + 1)) (cap - (mk + 1))) := by rw [ha]; exact putSel_on (e := (15, 68, .slice (some ⟨g, (mk + 1) * 4, none⟩) (k - (mk + 1)) (cap - (mk + 1)))) 15 rfl rfl (hon 15 (by kernel_rfl)) rfl
            replace ha := Aside0.mk ha
            have L := Aside0.mk (Q_L (hoff 19 (by kernel_rfl)))
            have TA := Aside0.mk Q_TA
            have BR := Aside0.mk Q_BR
            have DC := Aside0.mk Q_DC
            have SZ := Aside0.mk Q_SZ
            have NG := Aside0.mk (Q_NG (hon 1 (by kernel_rfl)))
            have GE := Aside0.mk (Q_GE (hon 1 (by kernel_rfl)))
            have O1 := Aside0.mk (Q_O1 (hon 8 (by kernel_rfl)) hb_)
            have NV := Aside0.mk (Q_NV (hon 8 (by kernel_rfl)))
            have GV := Aside0.mk (Q_GV (hon 8 (by kernel_rfl)))
            have hw : ∀ j u, (flat4 (m.drop (mk + 1)))[j]? = some u → w'.cell? ((⟨g, (mk + 1) * 4, none⟩ : Addr).add j) = some u := by
              intro j u hu
              have e : flat4 m = flat4 (m.take (mk + 1)) ++ flat4 (m.drop (mk + 1)) := by rw [← flat4_append, List.take_append_drop]
              have hl : (flat4 (m.take (mk + 1))).length = (mk + 1) * 4 := by rw [flat4_length, List.length_take, Nat.min_eq_left (by rw [← HNA.out]; exact hlN.out)]
              have h2 := L.out.wait.cells (g := g) rfl ((mk + 1) * 4 + j) u (by rw [e, List.getElem?_append_right (by rw [hl]; omega), hl, Nat.add_sub_cancel_left]; exact hu)
              rw [cell_add] at h2
              have e3 : (⟨g, (mk + 1) * 4, none⟩ : Addr).add j = ⟨g, (mk + 1) * 4 + j, none⟩ := by unfold Addr.add; split <;> simp_all
              rw [e3]; exact h2
            obtain ⟨vv, w2, hr, o1, o2, o3⟩ := append_many (P := Try.prog) w' Try.underlying66 infoC rfl (by decide) v1 mk _ O1.out ⟨g, (mk + 1) * 4, none⟩ (k - (mk + 1)) (cap - (mk + 1)) (flat4 (m.drop (mk + 1))) (by rw [flat4_length, List.length_drop, ← HNA.out]) hw (flat4_one _) (by have := hlN.out; have := hk9.out; omega) (by decide)
            have o1' : w2.ownsRow 0 74 4 vv (m.eraseIdx mk).length (flat4 (m.eraseIdx mk)) := by
              rw [List.eraseIdx_eq_take_drop_succ, flat4_append]
              have hle : (m.take mk ++ m.drop (mk + 1)).length = mk + (k - (mk + 1)) := by rw [List.length_append, List.length_take, List.length_drop, ← HNA.out, Nat.min_eq_left (Nat.le_of_lt hlN.out)]
              rw [hle]; exact o1
            refine value_ (w1 := w2) (v := vv) (by rfl) rfl ?_ ?_
            · exact run_append_op (by rfl) e61 e68 hr
            have tt := Touch.of_grownBy o2
            refine hK.out _ _ ⟨ge, v1, vv, m1_, (by rw [ha.out]; exact putSel_upk 16 hb_ rfl rfl rfl), fun _ => L.out.touch tt (fun i h => by intro e; exact NV.out _ (.inl h) e), TA.out.then tt (by rintro i hi e; exact absurd hi (by have := GV.out _ e; omega)), tt.blk BR.out (by intro e; exact NV.out _ (.inr (.inl rfl)) e), tt.blk DC.out (by intro e; exact NV.out _ (.inr (.inr rfl)) e), fun i h => Nat.lt_of_lt_of_le (SZ.out i h) tt.size, fun _ h1_ => absurd ((hon 8 (by kernel_rfl)).symm.trans h1_) (by decide), Q_NG, Q_GE, fun _ h1_ => absurd ((up_self b 16).symm.trans h1_) (by decide), Q_NV, Q_GV, fun _ _ => o1', fun _ => fun i h e => by rcases o3 with e2 | ⟨q, e2, e3⟩; (exact NV.out _ h (e2 ▸ e)); (rw [e] at e2; cases e2; have := SZ.out _ h; omega), fun _ => fun q h => by rcases o3 with e2 | ⟨q', e2, e3⟩; (exact GV.out _ (e2 ▸ h)); (rw [h] at e2; cases e2; exact Nat.le_trans TA.out.size e3), fun h0_ => absurd ((hoff 19 (by kernel_rfl)).symm.trans h0_) (by decide), Q_X1_⟩
          refine steps_cons ?_ ?_
          · rintro b a w' ⟨ge, v1, v2, m1_, ha, Q_L, Q_TA, Q_BR, Q_DC, Q_SZ, Q_E1, Q_NG, Q_GE, Q_O1, Q_NV, Q_GV, Q_O2, Q_NW, Q_GW, Q_R3, Q_X1_⟩ hb_ hon hoff
            refine ⟨_, rfl, fun K hK => ?_⟩
            have e53 : a.tmps[53]? = some (.pointer (some ⟨l, 0, none⟩)) := by rw [ha]; exact putSel_on (e := (0, 53, .pointer (some ⟨l, 0, none⟩))) 0 rfl rfl (hon 0 (by kernel_rfl)) rfl
            replace ha := Aside0.mk ha
            have L := Aside0.mk (Q_L (hoff 19 (by kernel_rfl)))
            have TA := Aside0.mk Q_TA
            have BR := Aside0.mk Q_BR
            have DC := Aside0.mk Q_DC
            have SZ := Aside0.mk Q_SZ
            have NG := Aside0.mk (Q_NG (hon 1 (by kernel_rfl)))
            have GE := Aside0.mk (Q_GE (hon 1 (by kernel_rfl)))
            have NV := Aside0.mk (Q_NV (hon 8 (by kernel_rfl)))
            have GV := Aside0.mk (Q_GV (hon 8 (by kernel_rfl)))
            have O2 := Aside0.mk (Q_O2 (hon 16 (by kernel_rfl)) (hoff 19 (by kernel_rfl)))
            have NW := Aside0.mk (Q_NW (hon 16 (by kernel_rfl)))
            have GW := Aside0.mk (Q_GW (hon 16 (by kernel_rfl)))
            refine value_ (w1 := w') (v := .pointer (some ⟨l, 0, none⟩)) (by rfl) rfl ?_ ?_
            · go_simp
              (try simp only [i64_w])
              try rfl
            refine hK.out _ _ ⟨ge, v1, v2, m1_, (by rw [ha.out]; exact putSel_upk 17 hb_ rfl rfl rfl), Q_L, Q_TA, Q_BR, Q_DC, Q_SZ, fun _ h1_ => absurd ((hon 8 (by kernel_rfl)).symm.trans h1_) (by decide), Q_NG, Q_GE, fun _ h1_ => absurd ((hon 16 (by kernel_rfl)).symm.trans h1_) (by decide), Q_NV, Q_GV, Q_O2, Q_NW, Q_GW, fun h0_ => absurd ((hoff 19 (by kernel_rfl)).symm.trans h0_) (by decide), Q_X1_⟩
          refine steps_cons ?_ ?_
          · rintro b a w' ⟨ge, v1, v2, m1_, ha, Q_L, Q_TA, Q_BR, Q_DC, Q_SZ, Q_E1, Q_NG, Q_GE, Q_O1, Q_NV, Q_GV, Q_O2, Q_NW, Q_GW, Q_R3, Q_X1_⟩ hb_ hon hoff
            refine ⟨_, rfl, fun K hK => ?_⟩
            have e70 : a.tmps[70]? = some (.pointer (some ⟨l, 0, none⟩)) := by rw [ha]; exact putSel_on (e := (17, 70, .pointer (some ⟨l, 0, none⟩))) 17 rfl rfl (hon 17 (by kernel_rfl)) rfl
            replace ha := Aside0.mk ha
            have L := Aside0.mk (Q_L (hoff 19 (by kernel_rfl)))
            have TA := Aside0.mk Q_TA
            have BR := Aside0.mk Q_BR
            have DC := Aside0.mk Q_DC
            have SZ := Aside0.mk Q_SZ
            have NG := Aside0.mk (Q_NG (hon 1 (by kernel_rfl)))
            have GE := Aside0.mk (Q_GE (hon 1 (by kernel_rfl)))
            have NV := Aside0.mk (Q_NV (hon 8 (by kernel_rfl)))
            have GV := Aside0.mk (Q_GV (hon 8 (by kernel_rfl)))
            have O2 := Aside0.mk (Q_O2 (hon 16 (by kernel_rfl)) (hoff 19 (by kernel_rfl)))
            have NW := Aside0.mk (Q_NW (hon 16 (by kernel_rfl)))
            have GW := Aside0.mk (Q_GW (hon 16 (by kernel_rfl)))
            refine value_ (w1 := w') (v := .pointer (some ⟨l, 3, none⟩)) (by rfl) rfl ?_ ?_
            · go_simp
              (try simp only [i64_w])
              try rfl
            refine hK.out _ _ ⟨ge, v1, v2, m1_, (by rw [ha.out]; exact putSel_upk 18 hb_ rfl rfl rfl), Q_L, Q_TA, Q_BR, Q_DC, Q_SZ, fun _ h1_ => absurd ((hon 8 (by kernel_rfl)).symm.trans h1_) (by decide), Q_NG, Q_GE, fun _ h1_ => absurd ((hon 16 (by kernel_rfl)).symm.trans h1_) (by decide), Q_NV, Q_GV, Q_O2, Q_NW, Q_GW, fun h0_ => absurd ((hoff 19 (by kernel_rfl)).symm.trans h0_) (by decide), Q_X1_⟩
          refine steps_cons ?_ ?_
          · rintro b a w' ⟨ge, v1, v2, m1_, ha, Q_L, Q_TA, Q_BR, Q_DC, Q_SZ, Q_E1, Q_NG, Q_GE, Q_O1, Q_NV, Q_GV, Q_O2, Q_NW, Q_GW, Q_R3, Q_X1_⟩ hb_ hon hoff
            refine ⟨_, rfl, fun K hK => ?_⟩
            have e71 : a.tmps[71]? = some (.pointer (some ⟨l, 3, none⟩)) := by rw [ha]; exact putSel_on (e := (18, 71, .pointer (some ⟨l, 3, none⟩))) 18 rfl rfl (hon 18 (by kernel_rfl)) rfl
            have e69 : a.tmps[69]? = some (v2) := by rw [ha]; exact putSel_on (e := (16, 69, v2)) 16 rfl rfl (hon 16 (by kernel_rfl)) rfl
            replace ha := Aside0.mk ha
            have L := Aside0.mk (Q_L hb_)
            have TA := Aside0.mk Q_TA
            have BR := Aside0.mk Q_BR
            have DC := Aside0.mk Q_DC
            have SZ := Aside0.mk Q_SZ
            have NG := Aside0.mk (Q_NG (hon 1 (by kernel_rfl)))
            have GE := Aside0.mk (Q_GE (hon 1 (by kernel_rfl)))
            have NV := Aside0.mk (Q_NV (hon 8 (by kernel_rfl)))
            have GV := Aside0.mk (Q_GV (hon 8 (by kernel_rfl)))
            have O2 := Aside0.mk (Q_O2 (hon 16 (by kernel_rfl)) hb_)
            have NW := Aside0.mk (Q_NW (hon 16 (by kernel_rfl)))
            have GW := Aside0.mk (Q_GW (hon 16 (by kernel_rfl)))
            have hr := store_row4 O2.out L.out.cell (by simp)
            refine skip_ (w1 := w'.setCell ⟨l, 3, none⟩ v2) (by rfl) rfl ?_ ?_
            · exact run_store_op (by rfl) e71 e69 hr
            have ra : RA w' l n sent vs (.slice (some ⟨g, 0, none⟩) k cap) v2 scr (m.eraseIdx mk) := ⟨L.out.cell, L.out.row, O2.out, L.out.vl, NW.out _ (.inl (.inl rfl)), fun q hq e => NW.out _ (.inl (.inr (.inl hq))) e⟩
            refine hK.out _ _ ⟨ge, v1, v2, m1_, (by rw [ha.out]; exact putSel_none (v := undef) rfl), fun h0_ => absurd ((up_self b 19).symm.trans h0_) (by decide), TA.out.trans (Touch.setCell w' l 3 _ _ rfl), BR.out.far GRL.out.1 3 _, DC.out.far GRL.out.2 3 _, fun i h => by have := SZ.out i h; simpa using this, fun _ h1_ => absurd ((hon 8 (by kernel_rfl)).symm.trans h1_) (by decide), Q_NG, Q_GE, fun _ h1_ => absurd ((hon 16 (by kernel_rfl)).symm.trans h1_) (by decide), Q_NV, Q_GV, fun _ h1_ => absurd ((up_self b 19).symm.trans h1_) (by decide), Q_NW, Q_GW, fun _ => ra.put, Q_X1_⟩
          exact steps_nil
        · rintro b a w' hall ⟨ge, v1, v2, m1_, ha, Q_L, Q_TA, Q_BR, Q_DC, Q_SZ, Q_E1, Q_NG, Q_GE, Q_O1, Q_NV, Q_GV, Q_O2, Q_NW, Q_GW, Q_R3, Q_X1_⟩
          clear BR DC L SZ TA
          have hb0_ := hall 0 (by kernel_rfl)
          have hb1_ := hall 1 (by kernel_rfl)
          have hb2_ := hall 2 (by kernel_rfl)
          have hb3_ := hall 3 (by kernel_rfl)
          have hb4_ := hall 4 (by kernel_rfl)
          have hb5_ := hall 5 (by kernel_rfl)
          have hb6_ := hall 6 (by kernel_rfl)
          have hb7_ := hall 7 (by kernel_rfl)
          have hb8_ := hall 8 (by kernel_rfl)
          have hb9_ := hall 9 (by kernel_rfl)
          have hb10_ := hall 10 (by kernel_rfl)
          have hb11_ := hall 11 (by kernel_rfl)
          have hb12_ := hall 12 (by kernel_rfl)
          have hb13_ := hall 13 (by kernel_rfl)
          have hb14_ := hall 14 (by kernel_rfl)
          have hb15_ := hall 15 (by kernel_rfl)
          have hb16_ := hall 16 (by kernel_rfl)
          have hb17_ := hall 17 (by kernel_rfl)
          have hb18_ := hall 18 (by kernel_rfl)
          have hb19_ := hall 19 (by kernel_rfl)
          subst ha
          obtain rfl := Q_X1_ hb1_
          simp only [putSel, hb0_, hb1_, hb2_, hb3_, hb4_, hb5_, hb6_, hb7_, hb8_, hb9_, hb10_, hb11_, hb12_, hb13_, hb14_, hb15_, hb16_, hb17_, hb18_, hb19_, if_true, Act.put, List.setIfInBounds_toArray, List.set_cons_zero, List.set_cons_succ]
          clear Q_L
          have TA := Aside0.mk Q_TA
          clear Q_TA
          have BR := Aside0.mk Q_BR
          clear Q_BR
          have DC := Aside0.mk Q_DC
          clear Q_DC
          have SZ := Aside0.mk Q_SZ
          clear Q_SZ
          clear Q_E1
          have NG := Aside0.mk (Q_NG hb1_)
          clear Q_NG
          have GE := Aside0.mk (Q_GE hb1_)
          clear Q_GE
          clear Q_O1
          have NV := Aside0.mk (Q_NV hb8_)
          clear Q_NV
          have GV := Aside0.mk (Q_GV hb8_)
          clear Q_GV
          clear Q_O2
          have NW := Aside0.mk (Q_NW hb16_)
          clear Q_NW
          have GW := Aside0.mk (Q_GW hb16_)
          clear Q_GW
          have R3 := Aside0.mk (Q_R3 hb19_)
          clear Q_R3
          clear hall hb0_ hb1_ hb2_ hb3_ hb4_ hb5_ hb6_ hb7_ hb8_ hb9_ hb10_ hb11_ hb12_ hb13_ hb14_ hb15_ hb16_ hb17_ hb18_ hb19_
          have d0 : w'.cell? ⟨gc, 0, none⟩ = some (.int .i64 y.src) := DC.out.cell 0
          have d1 : w'.cell? ⟨gc, 1, none⟩ = some (.int .i64 y.dst) := DC.out.cell 1
          have d2 : w'.cell? ⟨gc, 2, none⟩ = some (.string y.txt) := DC.out.cell 2
          have d3 : w'.cell? ⟨gc, 3, none⟩ = some (.int .i64 y.due) := DC.out.cell 3
          have r0 : w'.cell? ⟨gr, 0, none⟩ = some (.int .i64 0) := BR.out.cell 0
          have r1 : w'.cell? ⟨gr, 1, none⟩ = some (.int .i64 0) := BR.out.cell 1
          have r2 : w'.cell? ⟨gr, 2, none⟩ = some (.string ⟨#[]⟩) := BR.out.cell 2
          have f0 := BR.out.frozen 0
          have f1 := BR.out.frozen 1
          have f2 := BR.out.frozen 2
          have BF := Lib.hid (Blk.drew (((BR.out.put 0 (.int .i64 y.src) rfl).put 1 (.int .i64 y.dst) rfl).put 2 (.string y.txt) rfl))
          have T3 := touch3 w' gr 0 1 2 (.int .i64 y.src) (.int .i64 y.dst) (.string y.txt)
          have RF3 := Lib.hid ((R3.out.touch T3 (by rintro i (rfl | h | h) e; exact GRL.out.1 e.symm; (subst e; exact NVS.out h); (subst e; exact NW.out _ (.inr (.inl rfl)) h))).touch (Touch.drewN _ 1 (fun _ => False)) (fun _ _ => id))
          have TF := Lib.hid ((TA.out.then (t := fun i => i = gr) T3 (by rintro i hi rfl; exact absurd hi (by have := GRW.out; omega))).trans (Touch.drewN _ 1 _))
          have GF := Lib.hid GW.out
          clear T3 L0 TA BR DC SZ SZ0 NG GE NV GV NW R3
          go_wp2_with fail
          go_region
          go_wp2_with fail
          refine bodyPost_ret (res_ctt rfl _ _ gr 31 _ _ rfl BF.out rfl Try.underlying31 (by kernel_rfl)) rfl ?_
          refine ⟨y, ?_, rfl, v2, ?_, GF.out, TF.out⟩
          · rw [← MK.out]; exact HY.out
          · rw [← MK.out]; exact RF3.out

end Go.Proofs.Ytemcbaacefjfnaa
