/- Send of the reference's lines. -/
import Derived.Test.YtemcbaacefjfnaaLnRf
import Derived.Deep.DeepCutAuto
set_option linter.unusedVariables false
set_option linter.unusedSimpArgs false
namespace Go.Proofs.Ytemcbaacefjfnaa
open Go.RowKit Go.Proofs.YtemcbaacefjfnaaW.PrintWords Go.Proofs.YtemcbaacefjfnaaW.PrintLast

theorem RF.sent' {w : World} {l sent : Nat} {n : Int} {vs vw : Value} {scr : List Tb} {m : List Wt} (h : RF w l n sent vs vw scr m) : RF (w.setCell ⟨l, 1, none⟩ (.int .i64 ((sent + 1 : Nat) : Int))) l n (sent + 1) vs vw scr m :=
  have k := Touch.setCell w l 1 (.int .i64 ((sent + 1 : Nat) : Int)) (fun k => k = l) rfl
  ⟨h.cell.put 1 _ rfl, h.row.touch k (fun g hg e => h.vl (e ▸ hg)), ownsRow_touch' h.wait k (fun g hg e => h.wl (e ▸ hg)), h.vl, h.wl, h.vw_⟩
theorem store_row4 {w : World} {e : TypeId} {n q : Nat} {v : Value} {xs : List Value} {t : TypeId} {ca : Array Value} (h : w.ownsRow 0 e 4 v n xs) (hC : Blk w q ca t) (h3 : 3 < ca.size) : (Instr.storeAt 66 (.pointer (some ⟨q, 3, none⟩)) v).run Try.prog w = .ok () (w.setCell ⟨q, 3, none⟩ v) := by
  rcases h.2 with ⟨rfl, _⟩ | ⟨g, cap, cur, rfl, _⟩
  · exact run_store_run _ _ [.slice none 0 0] hC rfl (by kernel_rfl) (by simp; omega) (by simp [Value.oneCell'])
  · exact run_store_run _ _ [.slice (some ⟨g, 0, none⟩) n cap] hC rfl (by kernel_rfl) (by simp; omega) (by simp [Value.oneCell'])
structure RA (w : World) (l : Nat) (n : Int) (sent : Nat) (vs vo vn : Value) (scr : List Tb) (m : List Wt) : Prop where
  cell : Blk w l #[.int .i64 n, .int .i64 sent, vs, vo] 68
  row : SR w 0 vs scr
  wait : w.ownsRow 0 74 4 vn m.length (flat4 m)
  vl : vs.ownBlock ≠ some l
  wl : vn.ownBlock ≠ some l
  vw_ : ∀ g, vs.ownBlock = some g → vn.ownBlock ≠ some g
theorem RF.grow {w w2 : World} {l sent : Nat} {n : Int} {vs vo vn : Value} {scr : List Tb} {m m' : List Wt} (h : RF w l n sent vs vo scr m) (k : w.grownBy w2 vo.ownBlock) (f : Fresh w vo.ownBlock vn.ownBlock) (o : w2.ownsRow 0 74 4 vn m'.length (flat4 m')) : RA w2 l n sent vs vo vn scr m' := by
  have t := Touch.of_grownBy k
  refine ⟨t.blk h.cell h.wl, h.row.touch t (fun g hg e => h.vw_ g hg e), o, h.vl, ?_, ?_⟩
  · rcases f with e | ⟨g, e, e2⟩
    · rw [e]; exact h.wl
    · rw [e]; intro e3; cases e3; have := h.cell.lt; omega
  · intro g hg e3
    rcases f with e | ⟨g', e, e2⟩
    · exact h.vw_ g hg (e ▸ e3)
    · rw [e] at e3; cases e3; have := (h.row.lt _ hg).2; omega
theorem RA.put {w : World} {l sent : Nat} {n : Int} {vs vo vn : Value} {scr : List Tb} {m : List Wt} (h : RA w l n sent vs vo vn scr m) : RF (w.setCell ⟨l, 3, none⟩ vn) l n sent vs vn scr m :=
  have k := Touch.setCell w l 3 vn (fun k => k = l) rfl
  ⟨h.cell.put 3 _ rfl, h.row.touch k (fun g hg e => h.vl (e ▸ hg)), ownsRow_touch' h.wait k (fun g hg e => h.wl (e ▸ hg)), h.vl, h.wl, h.vw_⟩
def rfSend.T12 : Bool × List (List Nat × List Nat) := (true, [([], []), ([], []), ([1], [1]), ([2], [2]), ([3], [3]), ([], []), ([], []), ([], []), ([6, 7], [6, 7]), ([5, 8], [5, 8]), ([9], [9]), ([4, 10], [4, 10]), ([0, 0, 1, 2, 3, 4, 5, 6, 7, 8, 9, 10, 11], [0]), ([12, 0, 1, 2, 3, 4, 5, 6, 7, 8, 9, 10, 11], [12]), ([13, 11, 11, 0, 1, 2, 3, 4, 5, 6, 7, 8, 9, 10, 11], [11, 13])])
def rfSend.B12 : List Nat := [0, 0, 2, 6, 14, 0, 0, 0, 192, 480, 992, 2046, 4095, 8191, 16383]
theorem rfSend.tab12 : rtab .any (opsOf Try.f16 12) = rfSend.T12 := by kernel_rfl
theorem rfSend.bits12 : waitsOk rfSend.T12.2 rfSend.B12 = true := by kernel_rfl

set_option maxRecDepth 100000 in
set_option maxHeartbeats 4000000 in
theorem rsend_any (l sent : Nat) (n : Int) (vs vw : Value) (scr : List Tb) (m : List Wt) (due ma mb : Int) (txt : ByteArray) (w0 : World) (hL : RF w0 l n sent vs vw scr m) (hs : sent < 100000) (hm : m.length < 900000) (hf : scr.length ≤ 1000) :
    Calls Try.prog 16 #[.pointer (some ⟨l, 0, none⟩), .int .i64 due, .agg #[.int .i64 ma, .int .i64 mb, .string txt]] w0 fun e w' => e = .returned (.tuple #[]) ∧ ∃ vw', RF w' l n (sent + 1) vs vw' scr (m ++ sendL n sent scr due ma mb txt) ∧ Fresh w0 vw.ownBlock vw'.ownBlock ∧ Touch w0 w' (fun k => k = l ∨ vw.ownBlock = some k) := by
  have T0 := Lib.hid ((Touch.alloc w0 (.cells #[.int .i64 ma, .int .i64 mb, .string txt] 31) (fun _ => False)).trans (Touch.alloc _ (.cells #[.bool false, .int .i64 1, .int .i64 0] 43) (fun _ => False)))
  have hlt : Hid (∀ i, ownR l vs vw i → i < w0.heap.size) := Lib.hid (fun i h => hL.lt h)
  have L1 := hL.touch T0.out (fun _ _ => id)
  have LL := Lib.hid L1
  have B0 := Lib.hid ((Blk.new w0 #[.int .i64 ma, .int .i64 mb, .string txt] 31 rfl).alloc (.cells #[.bool false, .int .i64 1, .int .i64 0] 43))
  have B1 := Lib.hid (Blk.new (w0.alloc (.cells #[.int .i64 ma, .int .i64 mb, .string txt] 31)) #[.bool false, .int .i64 1, .int .i64 0] 43 rfl)
  have E0 : (w0.alloc (.cells #[.int .i64 ma, .int .i64 mb, .string txt] 31)).heap.size = w0.heap.size + 1 := by simp
  rw [E0] at B1
  clear L1 hL E0
  go_enter Try.func16, Try.ntmps16
  go_upto_region 3 with fail
  generalize World.alloc _ (.cells #[.bool false, .int .i64 1, .int .i64 0] 43) = w1 at *
  obtain ⟨b0, hb0⟩ : ∃ b0, b0 = w0.heap.size := ⟨_, rfl⟩
  rw [← hb0] at B0 B1 ⊢
  obtain ⟨b1, hb1⟩ : ∃ b1, b1 = b0 + 1 := ⟨_, rfl⟩
  rw [← hb1] at B1 ⊢
  have HB := Lib.hid (And.intro hb0 hb1)
  have ne01 := Lib.hid (show b0 ≠ b1 by omega)
  clear hb0 hb1
  obtain ⟨t, ht⟩ : ∃ t, t = tbAt scr sent := ⟨_, rfl⟩
  have HT := Lib.hid ht
  obtain ⟨ao, c, hvs⟩ := LL.out.row.shape'
  have k1 : w1.cell? ⟨l, 1, none⟩ = some (.int .i64 sent) := LL.out.cell.cell 1
  have k2 : w1.cell? ⟨l, 2, none⟩ = some (.slice ao scr.length c) := by rw [← hvs]; exact LL.out.cell.cell 2
  have HV := Lib.hid hvs
  clear hvs ht
  go_quiet (fail)
  go_upto_if 22 with (fail)
  have KK := Lib.hid (And.intro k1 k2)
  clear k1 k2
  go_cut [6] (fun s6 wx => s6 = .pointer (some ⟨b1, 0, none⟩) ∧ Hid (Touch w1 wx (fun k => k = b1)) ∧ Hid (Blk wx b1 #[.bool t.lost, .int .i64 t.cop, .int .i64 t.del] 43))
  case first =>
    obtain ⟨k1, k2⟩ := KK.out
    by_cases hlt2 : sent < scr.length
    · have hS := LL.out.row
      rw [HV.out] at hS
      rcases hS with ⟨e0, e⟩ | ⟨g, off, c', e1, _, _, hc, hrow⟩
      · rw [e] at hlt2; simp at hlt2
      cases e1
      have e : t = scr[sent] := by rw [HT.out]; simp [tbAt, List.getElem?_eq_getElem hlt2]
      have r0 : w1.cell? ⟨g, off + sent * 3, none⟩ = some (.bool t.lost) := hrow (sent * 3 + 0) _ (by rw [flatT_get _ _ _ hlt2 (by decide), e]; rfl)
      have r1 : w1.cell? ⟨g, off + sent * 3 + 1, none⟩ = some (.int .i64 t.cop) := hrow (sent * 3 + 1) _ (by rw [flatT_get _ _ _ hlt2 (by decide), e]; rfl)
      have r2 : w1.cell? ⟨g, off + sent * 3 + 2, none⟩ = some (.int .i64 t.del) := hrow (sent * 3 + 2) _ (by rw [flatT_get _ _ _ hlt2 (by decide), e]; rfl)
      have d : decide ((sent : Int) < (scr.length : Int)) = true := by simp; omega
      have q0 := B1.out.cell 0
      have q1 := B1.out.cell 1
      have q2 := B1.out.cell 2
      have f0 := B1.out.frozen 0
      have f1 := B1.out.frozen 1
      have f2 := B1.out.frozen 2
      simp only [List.getElem?_toArray, List.getElem?_cons_zero, List.getElem?_cons_succ] at q0 q1 q2
      have hl1 : (0 : Int) ≤ (sent : Int) := by omega
      have hl2 : (sent : Int) < (scr.length : Int) := by omega
      clear e hrow
      go_wp2_with fail
      go_region
      go_wp2_with fail
      go_meet
      exact ⟨rfl, Lib.hid ((((Touch.drewN w1 _ (fun k => k = b1)).trans (Touch.setCell _ b1 0 _ _ rfl)).trans (Touch.setCell _ b1 1 _ _ rfl)).trans (Touch.setCell _ b1 2 _ _ rfl)), Lib.hid ((((B1.out.drewN _).put 0 _ rfl).put 1 _ rfl).put 2 _ rfl)⟩
    · have e : t = ⟨false, 1, 0⟩ := by rw [HT.out]; simp [tbAt, List.getElem?_eq_none (Nat.le_of_not_lt hlt2)]
      have d : decide (sent < scr.length) = false := by simp; omega
      have e1 : t.lost = false := by rw [e]
      have e2 : t.cop = 1 := by rw [e]
      have e3 : t.del = 0 := by rw [e]
      clear e k1 k2
      go_wp2_with fail
      go_meet
      refine ⟨rfl, Lib.hid (Touch.drewN w1 _ _), ?_⟩
      rw [e1, e2, e3]
      exact Lib.hid (B1.out.drewN _)
  case rest =>
    obtain ⟨rfl, C1, C2⟩ := hcut
    have hlt0 := hlt.out
    obtain ⟨hb0, hb1⟩ := HB.out
    have hne : b0 ≠ b1 := ne01.out
    have L2 := LL.out.touch C1.out (fun i h e => by have := hlt0 i h; omega)
    have M2 := C1.out.blk B0.out hne
    have hsz : b1 < wc.heap.size := C2.out.lt
    have hlb : l < b0 := by rw [hb0]; exact hlt0 l (.inl rfl)
    have L3 := L2.sent'
    have M3 := M2.far (g' := l) (by omega) 1 (.int .i64 ((sent + 1 : Nat) : Int))
    have D3 := C2.out.far (g' := l) (by omega) 1 (.int .i64 ((sent + 1 : Nat) : Int))
    have T3 := ((T0.out.then C1.out (t := fun k => k = b1) (s := fun _ => False) (fun i hi e => by omega)).weaken (t := fun k => k = l ∨ vw.ownBlock = some k) (fun _ _ h => h.elim)).trans (Touch.setCell wc l 1 (.int .i64 ((sent + 1 : Nat) : Int)) _ (.inl rfl))
    have hcast : ((sent + 1 : Nat) : Int) = (sent : Int) + 1 := by omega
    rw [hcast] at L3 M3 D3 T3
    have k1 : wc.cell? ⟨l, 1, none⟩ = some (.int .i64 sent) := L2.cell.cell 1
    have f1 := L2.cell.frozen 1
    have hsz3 : b1 < (wc.setCell ⟨l, 1, none⟩ (.int .i64 ((sent : Int) + 1))).heap.size := by simpa using hsz
    have n1 : (wc.setCell ⟨l, 1, none⟩ (.int .i64 ((sent : Int) + 1))).cell? ⟨l, 0, none⟩ = some (.int .i64 n) := L3.cell.cell 0
    have n2 : (wc.setCell ⟨l, 1, none⟩ (.int .i64 ((sent : Int) + 1))).cell? ⟨b1, 0, none⟩ = some (.bool t.lost) := D3.cell 0
    have n3 : (wc.setCell ⟨l, 1, none⟩ (.int .i64 ((sent : Int) + 1))).cell? ⟨b1, 1, none⟩ = some (.int .i64 t.cop) := D3.cell 1
    have n4 : (wc.setCell ⟨l, 1, none⟩ (.int .i64 ((sent : Int) + 1))).cell? ⟨b1, 2, none⟩ = some (.int .i64 t.del) := D3.cell 2
    have n5 : (wc.setCell ⟨l, 1, none⟩ (.int .i64 ((sent : Int) + 1))).cell? ⟨b0, 0, none⟩ = some (.int .i64 ma) := M3.cell 0
    have n6 : (wc.setCell ⟨l, 1, none⟩ (.int .i64 ((sent : Int) + 1))).cell? ⟨b0, 1, none⟩ = some (.int .i64 mb) := M3.cell 1
    have L4 := Lib.hid L3
    have M4 := Lib.hid M3
    have T4 := Lib.hid T3
    have Z4 := Lib.hid hsz3
    have HB4 := Lib.hid (And.intro hlt0 (And.intro hb0 hb1))
    clear L3 M3 D3 T3 L2 M2 hlt0 hb0 hb1 hne hcast C1 C2 B0 B1 LL T0 hlt HB ne01 KK HV hsz hsz3 hlb
    generalize hlo : t.lost = lost at *
    have node : ∀ x, nodeB n x = (decide (0 ≤ x) && decide (x < n)) := fun x => rfl
    have ways : lost = true ∨ (lost = false ∧ ma < 0) ∨ (lost = false ∧ ¬ ma < 0 ∧ n ≤ ma) ∨ (lost = false ∧ ¬ ma < 0 ∧ ¬ n ≤ ma ∧ mb < 0) ∨ (lost = false ∧ ¬ ma < 0 ∧ ¬ n ≤ ma ∧ ¬ mb < 0 ∧ n ≤ mb) ∨ (lost = false ∧ ¬ ma < 0 ∧ ¬ n ≤ ma ∧ ¬ mb < 0 ∧ ¬ n ≤ mb) := by
      cases lost <;> simp <;> omega
    have NO : Hid ((lost = true ∨ ma < 0 ∨ n ≤ ma ∨ mb < 0 ∨ n ≤ mb) → sendL n sent scr due ma mb txt = []) := Lib.hid (by
      intro h
      unfold sendL
      rw [← HT.out, if_pos]
      rw [hlo, node, node]
      rcases h with h | h | h | h | h
      · exact .inl h
      · exact .inr (.inl (by simp; omega))
      · exact .inr (.inl (by simp; omega))
      · exact .inr (.inr (by simp; omega))
      · exact .inr (.inr (by simp; omega)))
    have YES : Hid ((lost = false ∧ ¬ ma < 0 ∧ ¬ n ≤ ma ∧ ¬ mb < 0 ∧ ¬ n ≤ mb) → sendL n sent scr due ma mb txt = (List.range (copiesOf t)).map fun (j : Nat) => ⟨ma, mb, txt, firstOf t due + j, sent⟩) := Lib.hid (by
      rintro ⟨h1, h2, h3, h4, h5⟩
      unfold sendL
      rw [← HT.out, if_neg]
      rw [hlo, node, node]
      rintro (h | h | h)
      · rw [h1] at h; cases h
      · simp at h; omega
      · simp at h; omega)
    clear node hlo
    go_upto_region 6 with fail
    clear k1 f1
    generalize wc.setCell _ _ = wd at *
    rcases ways with h1 | ⟨h1, h2⟩ | ⟨h1, h2, h3⟩ | ⟨h1, h2, h3, h4⟩ | ⟨h1, h2, h3, h4, h5⟩ | ⟨h1, h2, h3, h4, h5⟩
    all_goals
      subst h1
      (try have d2 : decide (ma < 0) = true := by simpa using h2)
      (try have d2 : decide (ma < 0) = false := by simpa using h2)
      (try have d3 : decide (n ≤ ma) = true := by simpa using h3)
      (try have d3 : decide (n ≤ ma) = false := by simpa using h3)
      (try have d4 : decide (mb < 0) = true := by simpa using h4)
      (try have d4 : decide (mb < 0) = false := by simpa using h4)
      (try have d5 : decide (n ≤ mb) = true := by simpa using h5)
      (try have d5 : decide (n ≤ mb) = false := by simpa using h5)
    case inr.inr.inr.inr.inr =>
      have eS := YES.out ⟨rfl, h2, h3, h4, h5⟩
      have HS := Lib.hid eS
      clear eS h2 h3 h4 h5 NO YES
      go_quiet (fail)
      clear d2 d3 d4 d5 n1 n5 n6
      have L5 := Lib.hid (L4.out.touch (Touch.drewN wd nq (fun _ => False)) (fun _ _ => id))
      have M5 := Lib.hid (M4.out.drewN nq)
      have T5 := Lib.hid (T4.out.trans (Touch.drewN wd nq _))
      have Z5 : Hid (b1 < (wd.drewN nq).heap.size) := Z4
      have n3' : (wd.drewN nq).cell? ⟨b1, 1, none⟩ = some (.int .i64 t.cop) := n3
      have n4' : (wd.drewN nq).cell? ⟨b1, 2, none⟩ = some (.int .i64 t.del) := n4
      clear n2 n3 n4 L4 M4 T4 Z4
      generalize hwe : wd.drewN nq = we at *
      clear hwe
      go_wp2_with fail
      refine (rclamp_any _ _ _ _).mono ?_
      rintro e w' ⟨rfl, rfl⟩
      have uC : clampI t.cop 1 9 = (copiesOf t : Int) := by unfold copiesOf clampI; omega
      have hC : copiesOf t ≤ 9 := by unfold copiesOf clampI; omega
      have hF1 : 0 ≤ firstOf t due := by unfold firstOf clampI; omega
      have hF2 : firstOf t due ≤ 2097152 := by unfold firstOf clampI; omega
      have u1 : IntKind.i64.wrap (clampI due 0 1048576 + clampI t.del 0 1048576) = firstOf t due := IntWalk.i64_in _ (by unfold clampI; omega)
      rw [uC]
      clear n3' uC
      go_wp2_with fail
      go_quiet ((first | (go_at_call 19; exact quiet_same (rclamp_any _ _ _ _))))
      clear n4' u1
      have L6 := Lib.hid (L5.out.touch (Touch.drewN we nq (fun _ => False)) (fun _ _ => id))
      have M6 := Lib.hid (M5.out.drewN nq)
      have T6 := Lib.hid (T5.out.trans (Touch.drewN we nq _))
      have Z6 : Hid (b1 < (we.drewN nq).heap.size) := Z5
      clear L5 M5 T5 Z5
      generalize hwf : we.drewN nq = wf at *
      clear hwf
      generalize copiesOf t = C at *
      generalize firstOf t due = F at *
      go_wp2_with fail
      go_loopw [9] (fun i wr => ∃ k : Nat, i = .int .i64 k ∧ k ≤ C ∧ Hid (∃ v1, RF wr l n (sent + 1) vs v1 scr (m ++ (List.range k).map fun (j : Nat) => (⟨ma, mb, txt, F + j, sent⟩ : Wt)) ∧ Fresh wf vw.ownBlock v1.ownBlock ∧ Touch w0 wr (fun k => k = l ∨ vw.ownBlock = some k)) ∧ Hid (Blk wr b0 #[.int .i64 ma, .int .i64 mb, .string txt] 31) ∧ Hid (wf.heap.size ≤ wr.heap.size)) (fun i _ => C - (intOf i).toNat)
      case atStart => exact ⟨0, rfl, Nat.zero_le _, Lib.hid ⟨vw, by simpa using L6.out, .inl rfl, T6.out⟩, M6, Lib.hid (Nat.le_refl _)⟩
      case round =>
        clear L6 M6
        obtain ⟨k, rfl, hk, R, MR, SR0⟩ := hrel
        by_cases hkC : k < C
        · obtain ⟨v0, r1, r2, r3⟩ := R.out
          obtain ⟨x, hx⟩ : ∃ x : Wt, x = ⟨ma, mb, txt, F + k, sent⟩ := ⟨_, rfl⟩
          have hmm : (m ++ (List.range k).map fun (j : Nat) => (⟨ma, mb, txt, F + j, sent⟩ : Wt)).length < 1000000 := by simp; omega
          have hnext : (m ++ (List.range k).map fun (j : Nat) => (⟨ma, mb, txt, F + j, sent⟩ : Wt)) ++ [x] = m ++ (List.range (k + 1)).map fun (j : Nat) => (⟨ma, mb, txt, F + j, sent⟩ : Wt) := by
            rw [List.range_succ, List.map_append, ← List.append_assoc, hx]; rfl
          generalize (m ++ (List.range k).map fun (j : Nat) => (⟨ma, mb, txt, F + j, sent⟩ : Wt)) = mm at *
          have NX := Aside0.mk hnext
          have HX := Aside0.mk hx
          have MM := Aside0.mk hmm
          have Fr := Aside0.mk r2
          have L0 := Aside0.mk r1
          have M0 := Aside0.mk MR.out
          have SZ0 := Aside0.mk SR0.out
          have TA := Aside0.mk r3
          have NL : Aside0 (b0 ≠ l) := ⟨by have h4 := HB4.out; have := h4.1 l (.inl rfl); omega⟩
          have bs : Aside0 (∀ s2, Fresh wf vw.ownBlock s2 → s2 ≠ some b0) := ⟨by
            intro s2 h e
            have h4 := HB4.out
            have z := Z6.out
            rcases h with e2 | ⟨g, e2, e3⟩
            · have := h4.1 b0 (.inr (.inr (by rw [← e2, e]))); omega
            · rw [e] at e2; cases e2; omega⟩
          have gt : Aside0 (∀ s2 i, Fresh wf vw.ownBlock s2 → i < w0.heap.size → s2 = some i → vw.ownBlock = some i) := ⟨by
            intro s2 i h hi e
            have z := T6.out.size
            rcases h with e2 | ⟨g, e2, e3⟩
            · rw [← e2, e]
            · rw [e] at e2; cases e2; omega⟩
          have u7 : IntKind.i64.wrap (F + (k : Int)) = F + (k : Int) := IntWalk.i64_in _ (by omega)
          have hk9 := Aside0.mk (show (k : Int) ≤ 9 by omega)
          have k0 := Aside0.mk (show (0 : Int) ≤ (k : Int) by omega)
          have U7 := Aside0.mk u7
          clear hnext hmm r1 r2 r3 R MR HS HB4 hx u7
          go_wp2_with fail
          refine start_ (n := 15) (S := fun w' => True) (ds := []) #[false, false, false, false, false, false, false, false, false, false, false, false, false, false, false] (by kernel_rfl) rfl rfl trivial (fun hHeld => ?_)
          refine with_tabW rfSend.tab12 rfSend.bits12 (fun HT_ HW_ => ?_)
          have L : Aside0 (RF wr.drew l n (sent + 1) vs v0 scr mm) := ⟨L0.out.touch (Touch.drewN wr 1 (fun _ => False)) (fun _ _ => id)⟩
          have M : Aside0 (Blk wr.drew b0 #[.int .i64 ma, .int .i64 mb, .string txt] 31) := ⟨M0.out⟩
          replace TA : Aside0 (Touch w0 wr.drew (fun k => k = l ∨ vw.ownBlock = some k)) := ⟨TA.out.trans (Touch.drewN wr 1 _)⟩
          have SZ : Aside0 (wf.heap.size ≤ wr.drew.heap.size) := ⟨SZ0.out⟩
          generalize wr.drew = w1' at *
          refine inv_at [0, 1, 2, 3, 4, 5, 6, 7, 8, 9, 10, 11, 12, 13, 14] (fun a0_ b a w' => ∃ (gb : Nat) (v1 : Value) (m10_ : Value), a = putSel a0_ b [(0, 84, .pointer (some ⟨l, 0, none⟩)), (1, 85, .pointer (some ⟨l, 0, none⟩)), (2, 86, .pointer (some ⟨l, 0, none⟩)), (3, 87, .pointer (some ⟨l, 3, none⟩)), (4, 88, v0), (5, 89, .agg #[.int .i64 ma, .int .i64 mb, .string txt]), (6, 90, .int .i64 F), (7, 91, .int .i64 (k : Int)), (8, 92, .int .i64 (F + (k : Int))), (9, 93, .agg #[.int .i64 ma, .int .i64 mb, .string txt, .int .i64 (F + (k : Int))]), (10, 94, m10_), (11, 95, v1), (12, 96, .pointer (some ⟨l, 0, none⟩)), (13, 97, .pointer (some ⟨l, 3, none⟩))] ∧ (b 11 = false → RF w' l n (sent + 1) vs v0 scr mm) ∧ (Blk w' b0 #[.int .i64 ma, .int .i64 mb, .string txt] 31) ∧ (Touch w0 w' (fun k => k = l ∨ vw.ownBlock = some k)) ∧ (b 10 = true → b 11 = false → Blk w' gb #[.int .i64 ma, .int .i64 mb, .string txt, .int .i64 (F + (k : Int))] 74) ∧ (b 11 = true → b 14 = false → RA w' l n (sent + 1) vs v0 v1 scr (mm ++ [x])) ∧ (b 11 = true → Fresh wf vw.ownBlock v1.ownBlock) ∧ (b 14 = true → RF w' l n (sent + 1) vs v1 scr (mm ++ [x])) ∧ (wf.heap.size ≤ w'.heap.size) ∧ (b 10 = true → (m10_ : Value) = .slice (some ⟨gb, 0, none⟩) 1 1)) HT_.out HW_.out (by kernel_rfl) (by kernel_rfl) ?_ ?_ ?_
          · exact ⟨0, undef, .bool false, by simp only [putSel, Bool.false_eq_true, if_false], fun _ => L.out, M.out, TA.out, fun h_ => absurd h_ (by decide), fun h_ => absurd h_ (by decide), fun h_ => absurd h_ (by decide), fun h_ => absurd h_ (by decide), SZ.out, fun h_ => absurd h_ (by decide)⟩
          · skip
            clear L M SZ TA
            refine steps_cons ?_ ?_
            · rintro b a w' ⟨gb, v1, m10_, ha, Q_L, Q_M, Q_TA, Q_Z, Q_L2, Q_Fr2, Q_L3, Q_SZ, Q_X10_⟩ hb_ hon hoff
              refine ⟨_, rfl, fun K hK => ?_⟩
              have e0 : a.tmps[0]? = some (.pointer (some ⟨l, 0, none⟩)) := by rw [ha]; exact (putSel_off rfl).trans rfl
              replace ha := Aside0.mk ha
              have M := Aside0.mk Q_M
              have TA := Aside0.mk Q_TA
              have SZ := Aside0.mk Q_SZ
              refine value_ (w1 := w') (v := .pointer (some ⟨l, 0, none⟩)) (by rfl) rfl ?_ ?_
              · go_simp
                (try simp only [i64_w])
                try rfl
              refine hK.out _ _ ⟨gb, v1, m10_, (by rw [ha.out]; exact putSel_upk 0 hb_ rfl rfl rfl), Q_L, Q_M, Q_TA, Q_Z, Q_L2, Q_Fr2, fun h0_ => absurd ((hoff 14 (by kernel_rfl)).symm.trans h0_) (by decide), Q_SZ, Q_X10_⟩
            refine steps_cons ?_ ?_
            · rintro b a w' ⟨gb, v1, m10_, ha, Q_L, Q_M, Q_TA, Q_Z, Q_L2, Q_Fr2, Q_L3, Q_SZ, Q_X10_⟩ hb_ hon hoff
              refine ⟨_, rfl, fun K hK => ?_⟩
              have e0 : a.tmps[0]? = some (.pointer (some ⟨l, 0, none⟩)) := by rw [ha]; exact (putSel_off rfl).trans rfl
              replace ha := Aside0.mk ha
              have L := Aside0.mk (Q_L (hoff 11 (by kernel_rfl)))
              have M := Aside0.mk Q_M
              have TA := Aside0.mk Q_TA
              have SZ := Aside0.mk Q_SZ
              refine value_ (w1 := w') (v := .pointer (some ⟨l, 0, none⟩)) (by rfl) rfl ?_ ?_
              · go_simp
                (try simp only [i64_w])
                try rfl
              refine hK.out _ _ ⟨gb, v1, m10_, (by rw [ha.out]; exact putSel_upk 1 hb_ rfl rfl rfl), Q_L, Q_M, Q_TA, Q_Z, fun h0_ _ => absurd ((hoff 11 (by kernel_rfl)).symm.trans h0_) (by decide), fun h0_ => absurd ((hoff 11 (by kernel_rfl)).symm.trans h0_) (by decide), fun h0_ => absurd ((hoff 14 (by kernel_rfl)).symm.trans h0_) (by decide), Q_SZ, Q_X10_⟩
            refine steps_cons ?_ ?_
            · rintro b a w' ⟨gb, v1, m10_, ha, Q_L, Q_M, Q_TA, Q_Z, Q_L2, Q_Fr2, Q_L3, Q_SZ, Q_X10_⟩ hb_ hon hoff
              refine ⟨_, rfl, fun K hK => ?_⟩
              have e85 : a.tmps[85]? = some (.pointer (some ⟨l, 0, none⟩)) := by rw [ha]; exact putSel_on (e := (1, 85, .pointer (some ⟨l, 0, none⟩))) 1 rfl rfl (hon 1 (by kernel_rfl)) rfl
              replace ha := Aside0.mk ha
              have L := Aside0.mk (Q_L (hoff 11 (by kernel_rfl)))
              have M := Aside0.mk Q_M
              have TA := Aside0.mk Q_TA
              have SZ := Aside0.mk Q_SZ
              refine value_ (w1 := w') (v := .pointer (some ⟨l, 0, none⟩)) (by rfl) rfl ?_ ?_
              · go_simp
                (try simp only [i64_w])
                try rfl
              refine hK.out _ _ ⟨gb, v1, m10_, (by rw [ha.out]; exact putSel_upk 2 hb_ rfl rfl rfl), Q_L, Q_M, Q_TA, Q_Z, fun h0_ _ => absurd ((hoff 11 (by kernel_rfl)).symm.trans h0_) (by decide), fun h0_ => absurd ((hoff 11 (by kernel_rfl)).symm.trans h0_) (by decide), fun h0_ => absurd ((hoff 14 (by kernel_rfl)).symm.trans h0_) (by decide), Q_SZ, Q_X10_⟩
            refine steps_cons ?_ ?_
            · rintro b a w' ⟨gb, v1, m10_, ha, Q_L, Q_M, Q_TA, Q_Z, Q_L2, Q_Fr2, Q_L3, Q_SZ, Q_X10_⟩ hb_ hon hoff
              refine ⟨_, rfl, fun K hK => ?_⟩
              have e86 : a.tmps[86]? = some (.pointer (some ⟨l, 0, none⟩)) := by rw [ha]; exact putSel_on (e := (2, 86, .pointer (some ⟨l, 0, none⟩))) 2 rfl rfl (hon 2 (by kernel_rfl)) rfl
              replace ha := Aside0.mk ha
              have L := Aside0.mk (Q_L (hoff 11 (by kernel_rfl)))
              have M := Aside0.mk Q_M
              have TA := Aside0.mk Q_TA
              have SZ := Aside0.mk Q_SZ
              refine value_ (w1 := w') (v := .pointer (some ⟨l, 3, none⟩)) (by rfl) rfl ?_ ?_
              · go_simp
                (try simp only [i64_w])
                try rfl
              refine hK.out _ _ ⟨gb, v1, m10_, (by rw [ha.out]; exact putSel_upk 3 hb_ rfl rfl rfl), Q_L, Q_M, Q_TA, Q_Z, fun h0_ _ => absurd ((hoff 11 (by kernel_rfl)).symm.trans h0_) (by decide), fun h0_ => absurd ((hoff 11 (by kernel_rfl)).symm.trans h0_) (by decide), fun h0_ => absurd ((hoff 14 (by kernel_rfl)).symm.trans h0_) (by decide), Q_SZ, Q_X10_⟩
            refine steps_cons ?_ ?_
            · rintro b a w' ⟨gb, v1, m10_, ha, Q_L, Q_M, Q_TA, Q_Z, Q_L2, Q_Fr2, Q_L3, Q_SZ, Q_X10_⟩ hb_ hon hoff
              refine ⟨_, rfl, fun K hK => ?_⟩
              have e87 : a.tmps[87]? = some (.pointer (some ⟨l, 3, none⟩)) := by rw [ha]; exact putSel_on (e := (3, 87, .pointer (some ⟨l, 3, none⟩))) 3 rfl rfl (hon 3 (by kernel_rfl)) rfl
              replace ha := Aside0.mk ha
              have L := Aside0.mk (Q_L (hoff 11 (by kernel_rfl)))
              have M := Aside0.mk Q_M
              have TA := Aside0.mk Q_TA
              have SZ := Aside0.mk Q_SZ
              have c0 : w'.cell? ⟨l, 3, none⟩ = some v0 := L.out.cell.cell 3
              refine value_ (w1 := w') (v := v0) (by rfl) rfl ?_ ?_
              · go_simp
                (try simp only [i64_w])
                try rfl
              refine hK.out _ _ ⟨gb, v1, m10_, (by rw [ha.out]; exact putSel_upk 4 hb_ rfl rfl rfl), Q_L, Q_M, Q_TA, Q_Z, fun h0_ _ => absurd ((hoff 11 (by kernel_rfl)).symm.trans h0_) (by decide), fun h0_ => absurd ((hoff 11 (by kernel_rfl)).symm.trans h0_) (by decide), fun h0_ => absurd ((hoff 14 (by kernel_rfl)).symm.trans h0_) (by decide), Q_SZ, Q_X10_⟩
            refine steps_cons ?_ ?_
            · rintro b a w' ⟨gb, v1, m10_, ha, Q_L, Q_M, Q_TA, Q_Z, Q_L2, Q_Fr2, Q_L3, Q_SZ, Q_X10_⟩ hb_ hon hoff
              refine ⟨_, rfl, fun K hK => ?_⟩
              have e5 : a.tmps[5]? = some (.pointer (some ⟨b0, 0, none⟩)) := by rw [ha]; exact (putSel_off rfl).trans rfl
              replace ha := Aside0.mk ha
              have L := Aside0.mk (Q_L (hoff 11 (by kernel_rfl)))
              have M := Aside0.mk Q_M
              have TA := Aside0.mk Q_TA
              have SZ := Aside0.mk Q_SZ
              have c0 : w'.cell? ⟨b0, 0, none⟩ = some (.int .i64 ma) := M.out.cell 0
              have c1 : w'.cell? ⟨b0, 1, none⟩ = some (.int .i64 mb) := M.out.cell 1
              have c2 : w'.cell? ⟨b0, 2, none⟩ = some (.string txt) := M.out.cell 2
              refine value_ (w1 := w') (v := .agg #[.int .i64 ma, .int .i64 mb, .string txt]) (by rfl) rfl ?_ ?_
              · go_simp
                (try simp only [i64_w])
                try rfl
              refine hK.out _ _ ⟨gb, v1, m10_, (by rw [ha.out]; exact putSel_upk 5 hb_ rfl rfl rfl), Q_L, Q_M, Q_TA, fun h0_ _ => absurd ((hoff 10 (by kernel_rfl)).symm.trans h0_) (by decide), fun h0_ _ => absurd ((hoff 11 (by kernel_rfl)).symm.trans h0_) (by decide), fun h0_ => absurd ((hoff 11 (by kernel_rfl)).symm.trans h0_) (by decide), fun h0_ => absurd ((hoff 14 (by kernel_rfl)).symm.trans h0_) (by decide), Q_SZ, fun h0_ => absurd ((hoff 10 (by kernel_rfl)).symm.trans h0_) (by decide)⟩
            refine steps_cons ?_ ?_
            · rintro b a w' ⟨gb, v1, m10_, ha, Q_L, Q_M, Q_TA, Q_Z, Q_L2, Q_Fr2, Q_L3, Q_SZ, Q_X10_⟩ hb_ hon hoff
              refine ⟨_, rfl, fun K hK => ?_⟩
              have e8 : a.tmps[8]? = some (.int .i64 F) := by rw [ha]; exact (putSel_off rfl).trans rfl
              replace ha := Aside0.mk ha
              have L := Aside0.mk (Q_L (hoff 11 (by kernel_rfl)))
              have M := Aside0.mk Q_M
              have TA := Aside0.mk Q_TA
              have SZ := Aside0.mk Q_SZ
              refine value_ (w1 := w') (v := .int .i64 F) (by rfl) rfl ?_ ?_
              · go_simp
                (try simp only [i64_w])
                try rfl
              refine hK.out _ _ ⟨gb, v1, m10_, (by rw [ha.out]; exact putSel_upk 6 hb_ rfl rfl rfl), Q_L, Q_M, Q_TA, fun h0_ _ => absurd ((hoff 10 (by kernel_rfl)).symm.trans h0_) (by decide), fun h0_ _ => absurd ((hoff 11 (by kernel_rfl)).symm.trans h0_) (by decide), fun h0_ => absurd ((hoff 11 (by kernel_rfl)).symm.trans h0_) (by decide), fun h0_ => absurd ((hoff 14 (by kernel_rfl)).symm.trans h0_) (by decide), Q_SZ, fun h0_ => absurd ((hoff 10 (by kernel_rfl)).symm.trans h0_) (by decide)⟩
            refine steps_cons ?_ ?_
            · rintro b a w' ⟨gb, v1, m10_, ha, Q_L, Q_M, Q_TA, Q_Z, Q_L2, Q_Fr2, Q_L3, Q_SZ, Q_X10_⟩ hb_ hon hoff
              refine ⟨_, rfl, fun K hK => ?_⟩
              have e9 : a.tmps[9]? = some (.int .i64 (k : Int)) := by rw [ha]; exact (putSel_off rfl).trans rfl
              replace ha := Aside0.mk ha
              have L := Aside0.mk (Q_L (hoff 11 (by kernel_rfl)))
              have M := Aside0.mk Q_M
              have TA := Aside0.mk Q_TA
              have SZ := Aside0.mk Q_SZ
              refine value_ (w1 := w') (v := .int .i64 (k : Int)) (by rfl) rfl ?_ ?_
              · go_simp
                (try simp only [i64_w])
                try rfl
              refine hK.out _ _ ⟨gb, v1, m10_, (by rw [ha.out]; exact putSel_upk 7 hb_ rfl rfl rfl), Q_L, Q_M, Q_TA, fun h0_ _ => absurd ((hoff 10 (by kernel_rfl)).symm.trans h0_) (by decide), fun h0_ _ => absurd ((hoff 11 (by kernel_rfl)).symm.trans h0_) (by decide), fun h0_ => absurd ((hoff 11 (by kernel_rfl)).symm.trans h0_) (by decide), fun h0_ => absurd ((hoff 14 (by kernel_rfl)).symm.trans h0_) (by decide), Q_SZ, fun h0_ => absurd ((hoff 10 (by kernel_rfl)).symm.trans h0_) (by decide)⟩
            refine steps_cons ?_ ?_
            · rintro b a w' ⟨gb, v1, m10_, ha, Q_L, Q_M, Q_TA, Q_Z, Q_L2, Q_Fr2, Q_L3, Q_SZ, Q_X10_⟩ hb_ hon hoff
              refine ⟨_, rfl, fun K hK => ?_⟩
              have e90 : a.tmps[90]? = some (.int .i64 F) := by rw [ha]; exact putSel_on (e := (6, 90, .int .i64 F)) 6 rfl rfl (hon 6 (by kernel_rfl)) rfl
              have e91 : a.tmps[91]? = some (.int .i64 (k : Int)) := by rw [ha]; exact putSel_on (e := (7, 91, .int .i64 (k : Int))) 7 rfl rfl (hon 7 (by kernel_rfl)) rfl
              replace ha := Aside0.mk ha
              have L := Aside0.mk (Q_L (hoff 11 (by kernel_rfl)))
              have M := Aside0.mk Q_M
              have TA := Aside0.mk Q_TA
              have SZ := Aside0.mk Q_SZ
              have u := U7.out
              refine value_ (w1 := w') (v := .int .i64 (F + (k : Int))) (by rfl) rfl ?_ ?_
              · go_simp
                (try simp only [i64_w])
                try rfl
              refine hK.out _ _ ⟨gb, v1, m10_, (by rw [ha.out]; exact putSel_upk 8 hb_ rfl rfl rfl), Q_L, Q_M, Q_TA, fun h0_ _ => absurd ((hoff 10 (by kernel_rfl)).symm.trans h0_) (by decide), fun h0_ _ => absurd ((hoff 11 (by kernel_rfl)).symm.trans h0_) (by decide), fun h0_ => absurd ((hoff 11 (by kernel_rfl)).symm.trans h0_) (by decide), fun h0_ => absurd ((hoff 14 (by kernel_rfl)).symm.trans h0_) (by decide), Q_SZ, fun h0_ => absurd ((hoff 10 (by kernel_rfl)).symm.trans h0_) (by decide)⟩
            refine steps_cons ?_ ?_
            · rintro b a w' ⟨gb, v1, m10_, ha, Q_L, Q_M, Q_TA, Q_Z, Q_L2, Q_Fr2, Q_L3, Q_SZ, Q_X10_⟩ hb_ hon hoff
              refine ⟨_, rfl, fun K hK => ?_⟩
              have e89 : a.tmps[89]? = some (.agg #[.int .i64 ma, .int .i64 mb, .string txt]) := by rw [ha]; exact putSel_on (e := (5, 89, .agg #[.int .i64 ma, .int .i64 mb, .string txt])) 5 rfl rfl (hon 5 (by kernel_rfl)) rfl
              have e92 : a.tmps[92]? = some (.int .i64 (F + (k : Int))) := by rw [ha]; exact putSel_on (e := (8, 92, .int .i64 (F + (k : Int)))) 8 rfl rfl (hon 8 (by kernel_rfl)) rfl
              replace ha := Aside0.mk ha
              have L := Aside0.mk (Q_L (hoff 11 (by kernel_rfl)))
              have M := Aside0.mk Q_M
              have TA := Aside0.mk Q_TA
              have SZ := Aside0.mk Q_SZ
              refine value_ (w1 := w') (v := .agg #[.int .i64 ma, .int .i64 mb, .string txt, .int .i64 (F + (k : Int))]) (by rfl) rfl ?_ ?_
              · go_simp
                (try simp only [i64_w])
                try rfl
              refine hK.out _ _ ⟨gb, v1, m10_, (by rw [ha.out]; exact putSel_upk 9 hb_ rfl rfl rfl), Q_L, Q_M, Q_TA, fun h0_ _ => absurd ((hoff 10 (by kernel_rfl)).symm.trans h0_) (by decide), fun h0_ _ => absurd ((hoff 11 (by kernel_rfl)).symm.trans h0_) (by decide), fun h0_ => absurd ((hoff 11 (by kernel_rfl)).symm.trans h0_) (by decide), fun h0_ => absurd ((hoff 14 (by kernel_rfl)).symm.trans h0_) (by decide), Q_SZ, fun h0_ => absurd ((hoff 10 (by kernel_rfl)).symm.trans h0_) (by decide)⟩
            refine steps_cons ?_ ?_
            · rintro b a w' ⟨gb, v1, m10_, ha, Q_L, Q_M, Q_TA, Q_Z, Q_L2, Q_Fr2, Q_L3, Q_SZ, Q_X10_⟩ hb_ hon hoff
              refine ⟨_, rfl, fun K hK => ?_⟩
              have e93 : a.tmps[93]? = some (.agg #[.int .i64 ma, .int .i64 mb, .string txt, .int .i64 (F + (k : Int))]) := by rw [ha]; exact putSel_on (e := (9, 93, .agg #[.int .i64 ma, .int .i64 mb, .string txt, .int .i64 (F + (k : Int))])) 9 rfl rfl (hon 9 (by kernel_rfl)) rfl
              replace ha := Aside0.mk ha
              have L := Aside0.mk (Q_L (hoff 11 (by kernel_rfl)))
              have M := Aside0.mk Q_M
              have TA := Aside0.mk Q_TA
              have SZ := Aside0.mk Q_SZ
              refine value_ (w1 := w'.alloc (.cells #[.int .i64 ma, .int .i64 mb, .string txt, .int .i64 (F + (k : Int))] 74)) (v := .slice (some ⟨w'.heap.size, 0, none⟩) 1 1) (by rfl) rfl ?_ ?_
              · go_simp
              refine hK.out _ _ ⟨w'.heap.size, v1, (.slice (some ⟨w'.heap.size, 0, none⟩) 1 1), (by rw [ha.out]; exact putSel_upk 10 hb_ rfl rfl rfl), fun _ => L.out.touch (Touch.alloc w' _ (fun _ => False)) (fun _ _ => id), M.out.alloc _, TA.out.trans (Touch.alloc w' _ _), fun _ _ => Blk.new w' _ _ rfl, fun h0_ _ => absurd ((hoff 11 (by kernel_rfl)).symm.trans h0_) (by decide), fun h0_ => absurd ((hoff 11 (by kernel_rfl)).symm.trans h0_) (by decide), fun h0_ => absurd ((hoff 14 (by kernel_rfl)).symm.trans h0_) (by decide), (by have := SZ.out; simp; omega), fun _ => rfl⟩
            refine steps_cons ?_ ?_
            · rintro b a w' ⟨gb, v1, m10_, ha, Q_L, Q_M, Q_TA, Q_Z, Q_L2, Q_Fr2, Q_L3, Q_SZ, Q_X10_⟩ hb_ hon hoff
              refine ⟨_, rfl, fun K hK => ?_⟩
              have e88 : a.tmps[88]? = some (v0) := by rw [ha]; exact putSel_on (e := (4, 88, v0)) 4 rfl rfl (hon 4 (by kernel_rfl)) rfl
              have e94 : a.tmps[94]? = some (m10_) := by rw [ha]; exact putSel_on (e := (10, 94, m10_)) 10 rfl rfl (hon 10 (by kernel_rfl)) rfl
              rw [Q_X10_ (hon 10 (by kernel_rfl))] at e94
              replace ha := Aside0.mk ha
              have L := Aside0.mk (Q_L hb_)
              have M := Aside0.mk Q_M
              have TA := Aside0.mk Q_TA
              have Z := Aside0.mk (Q_Z (hon 10 (by kernel_rfl)) hb_)
              have SZ := Aside0.mk Q_SZ
              obtain ⟨vv, w2, hr, o1, o2, o3⟩ := append_fresh (P := Try.prog) w' Try.underlying66 infoC rfl (by decide) v0 mm.length (flat4 mm) L.out.wait [.int .i64 ma, .int .i64 mb, .string txt, .int .i64 (F + (k : Int))] rfl gb Z.out (by intro u hu; simp at hu; rcases hu with rfl | rfl | rfl | rfl <;> rfl) MM.out (by decide)
              have o1' : w2.ownsRow 0 74 4 vv (mm ++ [x]).length (flat4 (mm ++ [x])) := by rw [flat4_append, List.length_append, List.length_singleton, HX.out]; exact o1
              refine value_ (w1 := w2) (v := vv) (by rfl) rfl ?_ ?_
              · exact run_append_op (by rfl) e88 e94 hr
              have tt := Touch.of_grownBy o2
              have hF : Fresh wf vw.ownBlock vv.ownBlock := Fr.out.trans o3 SZ.out
              refine hK.out _ _ ⟨gb, vv, m10_, (by rw [ha.out]; exact putSel_upk 11 hb_ rfl rfl rfl), fun h0_ => absurd ((up_self b 11).symm.trans h0_) (by decide), (tt.blk M.out (fun e => bs.out _ Fr.out e)), TA.out.then tt (by rintro i hi e; exact .inr (gt.out _ _ Fr.out hi e)), fun _ h1_ => absurd ((up_self b 11).symm.trans h1_) (by decide), fun _ _ => (L.out.grow o2 o3 o1'), fun _ => hF, fun h0_ => absurd ((hoff 14 (by kernel_rfl)).symm.trans h0_) (by decide), (Nat.le_trans SZ.out tt.size), Q_X10_⟩
            refine steps_cons ?_ ?_
            · rintro b a w' ⟨gb, v1, m10_, ha, Q_L, Q_M, Q_TA, Q_Z, Q_L2, Q_Fr2, Q_L3, Q_SZ, Q_X10_⟩ hb_ hon hoff
              refine ⟨_, rfl, fun K hK => ?_⟩
              have e84 : a.tmps[84]? = some (.pointer (some ⟨l, 0, none⟩)) := by rw [ha]; exact putSel_on (e := (0, 84, .pointer (some ⟨l, 0, none⟩))) 0 rfl rfl (hon 0 (by kernel_rfl)) rfl
              replace ha := Aside0.mk ha
              have M := Aside0.mk Q_M
              have TA := Aside0.mk Q_TA
              have L2 := Aside0.mk (Q_L2 (hon 11 (by kernel_rfl)) (hoff 14 (by kernel_rfl)))
              have Fr2 := Aside0.mk (Q_Fr2 (hon 11 (by kernel_rfl)))
              have SZ := Aside0.mk Q_SZ
              refine value_ (w1 := w') (v := .pointer (some ⟨l, 0, none⟩)) (by rfl) rfl ?_ ?_
              · go_simp
                (try simp only [i64_w])
                try rfl
              refine hK.out _ _ ⟨gb, v1, m10_, (by rw [ha.out]; exact putSel_upk 12 hb_ rfl rfl rfl), fun h0_ => absurd ((hon 11 (by kernel_rfl)).symm.trans h0_) (by decide), Q_M, Q_TA, fun _ h1_ => absurd ((hon 11 (by kernel_rfl)).symm.trans h1_) (by decide), Q_L2, Q_Fr2, fun h0_ => absurd ((hoff 14 (by kernel_rfl)).symm.trans h0_) (by decide), Q_SZ, Q_X10_⟩
            refine steps_cons ?_ ?_
            · rintro b a w' ⟨gb, v1, m10_, ha, Q_L, Q_M, Q_TA, Q_Z, Q_L2, Q_Fr2, Q_L3, Q_SZ, Q_X10_⟩ hb_ hon hoff
              refine ⟨_, rfl, fun K hK => ?_⟩
              have e96 : a.tmps[96]? = some (.pointer (some ⟨l, 0, none⟩)) := by rw [ha]; exact putSel_on (e := (12, 96, .pointer (some ⟨l, 0, none⟩))) 12 rfl rfl (hon 12 (by kernel_rfl)) rfl
              replace ha := Aside0.mk ha
              have M := Aside0.mk Q_M
              have TA := Aside0.mk Q_TA
              have L2 := Aside0.mk (Q_L2 (hon 11 (by kernel_rfl)) (hoff 14 (by kernel_rfl)))
              have Fr2 := Aside0.mk (Q_Fr2 (hon 11 (by kernel_rfl)))
              have SZ := Aside0.mk Q_SZ
              refine value_ (w1 := w') (v := .pointer (some ⟨l, 3, none⟩)) (by rfl) rfl ?_ ?_
              · go_simp
                (try simp only [i64_w])
                try rfl
              refine hK.out _ _ ⟨gb, v1, m10_, (by rw [ha.out]; exact putSel_upk 13 hb_ rfl rfl rfl), fun h0_ => absurd ((hon 11 (by kernel_rfl)).symm.trans h0_) (by decide), Q_M, Q_TA, fun _ h1_ => absurd ((hon 11 (by kernel_rfl)).symm.trans h1_) (by decide), Q_L2, Q_Fr2, fun h0_ => absurd ((hoff 14 (by kernel_rfl)).symm.trans h0_) (by decide), Q_SZ, Q_X10_⟩
            refine steps_cons ?_ ?_
            · rintro b a w' ⟨gb, v1, m10_, ha, Q_L, Q_M, Q_TA, Q_Z, Q_L2, Q_Fr2, Q_L3, Q_SZ, Q_X10_⟩ hb_ hon hoff
              refine ⟨_, rfl, fun K hK => ?_⟩
              have e97 : a.tmps[97]? = some (.pointer (some ⟨l, 3, none⟩)) := by rw [ha]; exact putSel_on (e := (13, 97, .pointer (some ⟨l, 3, none⟩))) 13 rfl rfl (hon 13 (by kernel_rfl)) rfl
              have e95 : a.tmps[95]? = some (v1) := by rw [ha]; exact putSel_on (e := (11, 95, v1)) 11 rfl rfl (hon 11 (by kernel_rfl)) rfl
              replace ha := Aside0.mk ha
              have M := Aside0.mk Q_M
              have TA := Aside0.mk Q_TA
              have L2 := Aside0.mk (Q_L2 (hon 11 (by kernel_rfl)) hb_)
              have Fr2 := Aside0.mk (Q_Fr2 (hon 11 (by kernel_rfl)))
              have SZ := Aside0.mk Q_SZ
              have hr := store_row4 L2.out.wait L2.out.cell (by simp)
              refine skip_ (w1 := w'.setCell ⟨l, 3, none⟩ v1) (by rfl) rfl ?_ ?_
              · exact run_store_op (by rfl) e97 e95 hr
              refine hK.out _ _ ⟨gb, v1, m10_, (by rw [ha.out]; exact putSel_none (v := undef) rfl), fun h0_ => absurd ((hon 11 (by kernel_rfl)).symm.trans h0_) (by decide), M.out.far NL.out 3 _, TA.out.trans (Touch.setCell w' l 3 _ _ (.inl rfl)), fun _ h1_ => absurd ((hon 11 (by kernel_rfl)).symm.trans h1_) (by decide), fun _ h1_ => absurd ((up_self b 14).symm.trans h1_) (by decide), Q_Fr2, fun _ => L2.out.put, (by have := SZ.out; simpa using this), Q_X10_⟩
            exact steps_nil
          · rintro b a w' hall ⟨gb, v1, m10_, ha, Q_L, Q_M, Q_TA, Q_Z, Q_L2, Q_Fr2, Q_L3, Q_SZ, Q_X10_⟩
            clear L M SZ TA
            have hb0_ := hall 0 (by kernel_rfl)
            have hb1_ := hall 1 (by kernel_rfl)
            have hb2_ := hall 2 (by kernel_rfl)
            have hb3_ := hall 3 (by kernel_rfl)
            have hb4_ := hall 4 (by kernel_rfl)
            have hb5_ := hall 5 (by kernel_rfl)
            have hb6_ := hall 6 (by kernel_rfl)
            have hb7_ := hall 7 (by kernel_rfl)
            have hb8_ := hall 8 (by kernel_rfl)
            have hb9_ := hall 9 (by kernel_rfl)
            have hb10_ := hall 10 (by kernel_rfl)
            have hb11_ := hall 11 (by kernel_rfl)
            have hb12_ := hall 12 (by kernel_rfl)
            have hb13_ := hall 13 (by kernel_rfl)
            have hb14_ := hall 14 (by kernel_rfl)
            subst ha
            obtain rfl := Q_X10_ hb10_
            simp only [putSel, hb0_, hb1_, hb2_, hb3_, hb4_, hb5_, hb6_, hb7_, hb8_, hb9_, hb10_, hb11_, hb12_, hb13_, hb14_, if_true, Act.put, List.setIfInBounds_toArray, List.set_cons_zero, List.set_cons_succ]
            clear Q_L
            have M := Aside0.mk Q_M
            clear Q_M
            have TA := Aside0.mk Q_TA
            clear Q_TA
            clear Q_Z
            clear Q_L2
            have Fr2 := Aside0.mk (Q_Fr2 hb11_)
            clear Q_Fr2
            have L3 := Aside0.mk (Q_L3 hb14_)
            clear Q_L3
            have SZ := Aside0.mk Q_SZ
            clear Q_SZ
            clear hall hb0_ hb1_ hb2_ hb3_ hb4_ hb5_ hb6_ hb7_ hb8_ hb9_ hb10_ hb11_ hb12_ hb13_ hb14_
            go_wp2_with fail
            go_roundw
            case rel =>
              refine ⟨k + 1, rfl, by omega, Lib.hid ⟨v1, ?_, Fr2.out, TA.out⟩, Lib.hid M.out, Lib.hid SZ.out⟩
              rw [← NX.out]
              exact L3.out
            case measure => simp [intOf]; omega
        · have e : k = C := by omega
          subst e
          go_wp2
          go_end0
          obtain ⟨v1, r1, r2, r3⟩ := R.out
          refine ⟨rfl, v1, ?_, r2.older T6.out.size, r3⟩
          rw [HS.out]
          exact r1
    all_goals
      go_quiet (fail)
      go_wp2_with fail
      refine bodyPost_ret (results_none rfl _ _ _) rfl ?_
      refine ⟨rfl, vw, ?_, .inl rfl, T4.out.trans (Touch.drewN wd _ _)⟩
      have nothing : sendL n sent scr due ma mb txt = [] := NO.out (by first | (simp; done) | (simp; omega) | exact .inl rfl | exact .inr (.inl h2) | exact .inr (.inr (.inl h3)) | exact .inr (.inr (.inr (.inl h4))) | exact .inr (.inr (.inr (.inr h5))))
      rw [nothing, List.append_nil]
      exact L4.out.touch (Touch.drewN wd _ (fun _ => False)) (fun _ _ => id)

end Go.Proofs.Ytemcbaacefjfnaa
