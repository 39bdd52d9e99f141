/- Send of package lines. -/
import Derived.Test.YtemcbaacefjfnaaLnI
import Derived.Deep.DeepCutAuto
set_option linter.unusedVariables false
set_option linter.unusedSimpArgs false
namespace Go.Proofs.Ytemcbaacefjfnaa
open Go.RowKit Go.Proofs.YtemcbaacefjfnaaW.PrintWords Go.Proofs.YtemcbaacefjfnaaW.PrintLast

def tbAt (scr : List Tb) (k : Nat) : Tb := scr.getD k ⟨false, 1, 0⟩
def firstOf (t : Tb) (due : Int) : Int := clampI due 0 1048576 + clampI t.del 0 1048576
def copiesOf (t : Tb) : Nat := (clampI t.cop 1 9).toNat
def sendL (n : Int) (sent : Nat) (scr : List Tb) (due ma mb : Int) (txt : ByteArray) : List Wt :=
  if (tbAt scr sent).lost = true ∨ nodeB n ma = false ∨ nodeB n mb = false then [] else (List.range (copiesOf (tbAt scr sent))).map fun (j : Nat) => ⟨ma, mb, txt, firstOf (tbAt scr sent) due + j, sent⟩

/-- one more message has been sent -/
theorem LH.sent' {w : World} {l q sent : Nat} {s : Option Nat} {n : Int} {vs : Value} {scr : List Tb} {m : List Wt} (h : LH w l q s n sent vs scr m) : LH (w.setCell ⟨l, 1, none⟩ (.int .i64 ((sent + 1 : Nat) : Int))) l q s n (sent + 1) vs scr m :=
  have k := Touch.setCell w l 1 (.int .i64 ((sent + 1 : Nat) : Int)) (fun k => k = l) rfl
  ⟨h.cell.put 1 _ rfl, h.row.touch k (fun g hg e => h.vl (e ▸ hg)), h.que.touch k (fun e => h.lq e.symm) (fun g hg e => h.ls (e ▸ hg)), h.lq, h.ls, h.vl, h.vq, h.vd⟩

theorem SR.shape' {w : World} {base : Nat} {vs : Value} {scr : List Tb} (h : SR w base vs scr) : ∃ ao c, vs = .slice ao scr.length c := by
  rcases h with ⟨rfl, rfl⟩ | ⟨g, off, c, rfl, _⟩
  · exact ⟨_, _, rfl⟩
  · exact ⟨_, _, rfl⟩

theorem QH.perm {w : World} {q : Nat} {s : Option Nat} {m m' : List Wt} (h : QH w q s m) (hp : m.Perm m') : QH w q s m' := by
  obtain ⟨ys, a, b, c⟩ := h
  exact ⟨ys, a, b, c.trans hp⟩
theorem run_invoke_op {P : Program} {a : Act} {oi : Oper} {x v : Nat} {nm : String} {ts : Array TypeId} {tt : TypeId} {p r y : Value} {w : World} {f : FuncId} {fn : Func} (hf : P.funcs[f]? = some fn) (hname : (fn.name == "runtime.NumGoroutine") = false) (hb : fn.body.isSome = true) (hN : P.types.size + Made.depth = 204)
    (ho : oi.op = .call { callee := .invoke (.tmp x) nm, args := #[.tmp v], argTypes := ts }) (e1 : a.tmps[x]? = some (.iface tt p)) (e2 : a.tmps[v]? = some y) (hm : (method 204 tt p nm).run P w = .ok (f, r) w) : (execOp a.eval oi).run P w = .ok (.enter f #[r, y]) w := by
  have he := enters_ hf hname hb #[r, y] w
  unfold execOp
  simp [ho, resolve, Deferred.ofValue, invoke, callMethod, eval_of e1, eval_of e2, hN, hm, he]

def lnSend.T12 : Bool × List (List Nat × List Nat) := (true, [([], []), ([0], [0]), ([1], [1]), ([2], [2]), ([], []), ([], []), ([], []), ([5, 6], [5, 6]), ([], []), ([4, 7, 8], [4, 7, 8]), ([9], [9]), ([3, 10], [3, 10])])
def lnSend.B12 : List Nat := [0, 1, 3, 7, 0, 0, 0, 96, 0, 496, 1008, 2047]
theorem lnSend.tab12 : rtab .any (opsOf Try.f15 12) = lnSend.T12 := by kernel_rfl
theorem lnSend.bits12 : waitsOk lnSend.T12.2 lnSend.B12 = true := by kernel_rfl

set_option maxRecDepth 100000 in
set_option maxHeartbeats 4000000 in
theorem send_any (l q sent : Nat) (s : Option Nat) (n : Int) (vs : Value) (scr : List Tb) (m : List Wt) (due ma mb : Int) (txt : ByteArray) (w0 : World) (hL : LH w0 l q s n sent vs scr m) (hs : sent < 100000) (hm : m.length < 900000) (hf : scr.length ≤ 1000) :
    Calls Try.prog 15 #[.pointer (some ⟨l, 0, none⟩), .int .i64 due, .agg #[.int .i64 ma, .int .i64 mb, .string txt]] w0 fun e w' => e = .returned (.tuple #[]) ∧ ∃ s', LH w' l q s' n (sent + 1) vs scr (m ++ sendL n sent scr due ma mb txt) ∧ Fresh w0 s s' ∧ Touch w0 w' (fun k => k = l ∨ k = q ∨ s = some k) := by
  have T0 := Lib.hid ((Touch.alloc w0 (.cells #[.int .i64 ma, .int .i64 mb, .string txt] 31) (fun _ => False)).trans (Touch.alloc _ (.cells #[.bool false, .int .i64 1, .int .i64 0] 43) (fun _ => False)))
  have hlt := Lib.hid hL.lt
  have L1 := hL.touch T0.out id id (fun _ _ => id) (fun _ _ => id)
  have L0 := hL.touch (Touch.alloc w0 (.cells #[.int .i64 ma, .int .i64 mb, .string txt] 31) (fun _ => False)) id id (fun _ _ => id) (fun _ _ => id)
  have c3 : (w0.alloc (.cells #[.int .i64 ma, .int .i64 mb, .string txt] 31)).cell? ⟨l, 3, none⟩ = some (hq q) := L0.cell.cell 3
  have LL := Lib.hid L1
  have B0 := Lib.hid ((Blk.new w0 #[.int .i64 ma, .int .i64 mb, .string txt] 31 rfl).alloc (.cells #[.bool false, .int .i64 1, .int .i64 0] 43))
  have B1 := Lib.hid (Blk.new (w0.alloc (.cells #[.int .i64 ma, .int .i64 mb, .string txt] 31)) #[.bool false, .int .i64 1, .int .i64 0] 43 rfl)
  have E0 : (w0.alloc (.cells #[.int .i64 ma, .int .i64 mb, .string txt] 31)).heap.size = w0.heap.size + 1 := by simp
  rw [E0] at B1
  clear L1 L0 hL E0
  go_enter Try.func15, Try.ntmps15
  go_upto_region 3 with fail
  clear c3
  generalize World.alloc _ (.cells #[.bool false, .int .i64 1, .int .i64 0] 43) = w1 at *
  obtain ⟨b0, hb0⟩ : ∃ b0, b0 = w0.heap.size := ⟨_, rfl⟩
  rw [← hb0] at B0 B1 ⊢
  obtain ⟨b1, hb1⟩ : ∃ b1, b1 = b0 + 1 := ⟨_, rfl⟩
  rw [← hb1] at B1 ⊢
  have HB := Lib.hid (And.intro hb0 hb1)
  have ne01 := Lib.hid (show b0 ≠ b1 by omega)
  clear hb0 hb1
  obtain ⟨t, ht⟩ : ∃ t, t = tbAt scr sent := ⟨_, rfl⟩
  have HT := Lib.hid ht
  obtain ⟨ao, c, hvs⟩ := LL.out.row.shape'
  have k1 : w1.cell? ⟨l, 1, none⟩ = some (.int .i64 sent) := LL.out.cell.cell 1
  have k2 : w1.cell? ⟨l, 2, none⟩ = some (.slice ao scr.length c) := by rw [← hvs]; exact LL.out.cell.cell 2
  have HV := Lib.hid hvs
  clear hvs ht
  go_quiet (fail)
  go_upto_if 29 with (fail)
  have KK := Lib.hid (And.intro k1 k2)
  clear k1 k2
  go_cut [6] (fun s6 wx => s6 = .pointer (some ⟨b1, 0, none⟩) ∧ Hid (Touch w1 wx (fun k => k = b1)) ∧ Hid (Blk wx b1 #[.bool t.lost, .int .i64 t.cop, .int .i64 t.del] 43))
  case first =>
    obtain ⟨k1, k2⟩ := KK.out
    by_cases hlt2 : sent < scr.length
    · have hS := LL.out.row
      rw [HV.out] at hS
      rcases hS with ⟨e0, e⟩ | ⟨g, off, c', e1, _, _, hc, hrow⟩
      · rw [e] at hlt2; simp at hlt2
      cases e1
      have e : t = scr[sent] := by rw [HT.out]; simp [tbAt, List.getElem?_eq_getElem hlt2]
      have r0 : w1.cell? ⟨g, off + sent * 3, none⟩ = some (.bool t.lost) := hrow (sent * 3 + 0) _ (by rw [flatT_get _ _ _ hlt2 (by decide), e]; rfl)
      have r1 : w1.cell? ⟨g, off + sent * 3 + 1, none⟩ = some (.int .i64 t.cop) := hrow (sent * 3 + 1) _ (by rw [flatT_get _ _ _ hlt2 (by decide), e]; rfl)
      have r2 : w1.cell? ⟨g, off + sent * 3 + 2, none⟩ = some (.int .i64 t.del) := hrow (sent * 3 + 2) _ (by rw [flatT_get _ _ _ hlt2 (by decide), e]; rfl)
      have d : decide ((sent : Int) < (scr.length : Int)) = true := by simp; omega
      have q0 := B1.out.cell 0
      have q1 := B1.out.cell 1
      have q2 := B1.out.cell 2
      have f0 := B1.out.frozen 0
      have f1 := B1.out.frozen 1
      have f2 := B1.out.frozen 2
      simp only [List.getElem?_toArray, List.getElem?_cons_zero, List.getElem?_cons_succ] at q0 q1 q2
      have hl1 : (0 : Int) ≤ (sent : Int) := by omega
      have hl2 : (sent : Int) < (scr.length : Int) := by omega
      clear e hrow
      go_wp2_with fail
      go_region
      go_wp2_with fail
      go_meet
      exact ⟨rfl, Lib.hid ((((Touch.drewN w1 _ (fun k => k = b1)).trans (Touch.setCell _ b1 0 _ _ rfl)).trans (Touch.setCell _ b1 1 _ _ rfl)).trans (Touch.setCell _ b1 2 _ _ rfl)), Lib.hid ((((B1.out.drewN _).put 0 _ rfl).put 1 _ rfl).put 2 _ rfl)⟩
    · have e : t = ⟨false, 1, 0⟩ := by rw [HT.out]; simp [tbAt, List.getElem?_eq_none (Nat.le_of_not_lt hlt2)]
      have d : decide (sent < scr.length) = false := by simp; omega
      have e1 : t.lost = false := by rw [e]
      have e2 : t.cop = 1 := by rw [e]
      have e3 : t.del = 0 := by rw [e]
      clear e k1 k2
      go_wp2_with fail
      go_meet
      refine ⟨rfl, Lib.hid (Touch.drewN w1 _ _), ?_⟩
      rw [e1, e2, e3]
      exact Lib.hid (B1.out.drewN _)
  case rest =>
    obtain ⟨rfl, C1, C2⟩ := hcut
    have hlt0 := hlt.out
    obtain ⟨hb0, hb1⟩ := HB.out
    have hne : b0 ≠ b1 := ne01.out
    have L2 := LL.out.touch C1.out (by omega) (by omega) (fun g hg => by have := hlt0.2.2.1 g hg; omega) (fun g hg => by have := hlt0.2.2.2 g hg; omega)
    have M2 := C1.out.blk B0.out hne
    have hsz : b1 < wc.heap.size := C2.out.lt
    have L3 := L2.sent'
    have M3 := M2.far (g' := l) (by omega) 1 (.int .i64 ((sent + 1 : Nat) : Int))
    have D3 := C2.out.far (g' := l) (by omega) 1 (.int .i64 ((sent + 1 : Nat) : Int))
    have T3 := ((T0.out.then C1.out (t := fun k => k = b1) (s := fun _ => False) (fun i hi e => by omega)).weaken (t := fun k => k = l ∨ k = q ∨ s = some k) (fun _ _ h => h.elim)).trans (Touch.setCell wc l 1 (.int .i64 ((sent + 1 : Nat) : Int)) _ (.inl rfl))
    have hcast : ((sent + 1 : Nat) : Int) = (sent : Int) + 1 := by omega
    rw [hcast] at L3 M3 D3 T3
    have k1 : wc.cell? ⟨l, 1, none⟩ = some (.int .i64 sent) := L2.cell.cell 1
    have f1 := L2.cell.frozen 1
    have hsz3 : b1 < (wc.setCell ⟨l, 1, none⟩ (.int .i64 ((sent : Int) + 1))).heap.size := by simpa using hsz
    have n1 : (wc.setCell ⟨l, 1, none⟩ (.int .i64 ((sent : Int) + 1))).cell? ⟨l, 0, none⟩ = some (.int .i64 n) := L3.cell.cell 0
    have n2 : (wc.setCell ⟨l, 1, none⟩ (.int .i64 ((sent : Int) + 1))).cell? ⟨b1, 0, none⟩ = some (.bool t.lost) := D3.cell 0
    have n3 : (wc.setCell ⟨l, 1, none⟩ (.int .i64 ((sent : Int) + 1))).cell? ⟨b1, 1, none⟩ = some (.int .i64 t.cop) := D3.cell 1
    have n4 : (wc.setCell ⟨l, 1, none⟩ (.int .i64 ((sent : Int) + 1))).cell? ⟨b1, 2, none⟩ = some (.int .i64 t.del) := D3.cell 2
    have n5 : (wc.setCell ⟨l, 1, none⟩ (.int .i64 ((sent : Int) + 1))).cell? ⟨b0, 0, none⟩ = some (.int .i64 ma) := M3.cell 0
    have n6 : (wc.setCell ⟨l, 1, none⟩ (.int .i64 ((sent : Int) + 1))).cell? ⟨b0, 1, none⟩ = some (.int .i64 mb) := M3.cell 1
    have L4 := Lib.hid L3
    have M4 := Lib.hid M3
    have T4 := Lib.hid T3
    have Z4 := Lib.hid hsz3
    have HB4 := Lib.hid (And.intro hlt0 (And.intro hb0 hb1))
    clear L3 M3 D3 T3 L2 M2 hlt0 hb0 hb1 hne hcast C1 C2 B0 B1 LL T0 hlt HB ne01 KK HV hsz hsz3
    generalize hlo : t.lost = lost at *
    cases lost with
    | true =>
      clear n1 n3 n4 n5 n6
      go_wp2
      refine bodyPost_ret (results_none rfl _ _ _) rfl ?_
      refine ⟨rfl, s, ?_, .inl rfl, T4.out⟩
      have e : sendL n sent scr due ma mb txt = [] := by unfold sendL; rw [← HT.out, if_pos (.inl hlo)]
      rw [e, List.append_nil]
      exact L4.out
    | false =>
      go_wp2_with fail
      refine (node_any l n ma _ n1).mono ?_
      rintro e w' ⟨rfl, rfl⟩
      generalize hna : nodeB n ma = na at *
      cases na with
      | false =>
        clear n1 n3 n4 n5 n6
        go_wp2
        refine bodyPost_ret (results_none rfl _ _ _) rfl ?_
        refine ⟨rfl, s, ?_, .inl rfl, T4.out⟩
        have e : sendL n sent scr due ma mb txt = [] := by unfold sendL; rw [if_pos (.inr (.inl hna))]
        rw [e, List.append_nil]
        exact L4.out
      | true =>
        go_wp2_with fail
        refine (node_any l n mb _ n1).mono ?_
        rintro e w' ⟨rfl, rfl⟩
        generalize hnb : nodeB n mb = nb at *
        cases nb with
        | false =>
          clear n1 n3 n4 n5 n6
          go_wp2
          refine bodyPost_ret (results_none rfl _ _ _) rfl ?_
          refine ⟨rfl, s, ?_, .inl rfl, T4.out⟩
          have e : sendL n sent scr due ma mb txt = [] := by unfold sendL; rw [if_pos (.inr (.inr hnb))]
          rw [e, List.append_nil]
          exact L4.out
        | true =>
          have eS : sendL n sent scr due ma mb txt = (List.range (copiesOf t)).map fun (j : Nat) => ⟨ma, mb, txt, firstOf t due + j, sent⟩ := by
            unfold sendL; rw [← HT.out, if_neg (by rw [hlo, hna, hnb]; simp)]
          have HS := Lib.hid eS
          clear n1 n2 n5 n6 k1 f1 hlo hna hnb eS
          generalize wc.setCell _ _ = wd at *
          go_wp2_with fail
          have u1 : IntKind.i64.wrap (clampI due 0 1048576 + clampI t.del 0 1048576) = firstOf t due := IntWalk.i64_in _ (by unfold clampI; omega)
          go_quiet ((first | (go_at_call 25; exact quiet_same (clamp_any _ _ _ _))))
          go_wp2_with fail
          refine (clamp_any _ _ _ _).mono ?_
          rintro e w' ⟨rfl, rfl⟩
          have uC : clampI t.cop 1 9 = (copiesOf t : Int) := by unfold copiesOf clampI; omega
          have hC : copiesOf t ≤ 9 := by unfold copiesOf clampI; omega
          have hF1 : 0 ≤ firstOf t due := by unfold firstOf clampI; omega
          have hF2 : firstOf t due ≤ 2097152 := by unfold firstOf clampI; omega
          rw [uC]
          have L5 := Lib.hid (L4.out.touch (Touch.drewN wd nq (fun _ => False)) id id (fun _ _ => id) (fun _ _ => id))
          have M5 := Lib.hid (M4.out.drewN nq)
          have T5 := Lib.hid (T4.out.trans (Touch.drewN wd nq _))
          have Z5 : Hid (b1 < (wd.drewN nq).heap.size) := Z4
          clear n3 n4 L4 M4 T4 Z4 u1 uC
          generalize hwe : wd.drewN nq = we at *
          clear hwe
          generalize copiesOf t = C at *
          generalize firstOf t due = F at *
          go_wp2_with fail
          go_loopw [76] (fun i wr => ∃ k : Nat, i = .int .i64 k ∧ k ≤ C ∧ Hid (∃ s', LH wr l q s' n (sent + 1) vs scr (m ++ (List.range k).map fun (j : Nat) => (⟨ma, mb, txt, F + j, sent⟩ : Wt)) ∧ Fresh we s s' ∧ Touch w0 wr (fun k => k = l ∨ k = q ∨ s = some k)) ∧ Hid (Blk wr b0 #[.int .i64 ma, .int .i64 mb, .string txt] 31) ∧ Hid (we.heap.size ≤ wr.heap.size)) (fun i _ => C - (intOf i).toNat)
          case atStart => exact ⟨0, rfl, Nat.zero_le _, Lib.hid ⟨s, by simpa using L5.out, .inl rfl, T5.out⟩, M5, Lib.hid (Nat.le_refl _)⟩
          case round =>
            clear L5 M5
            obtain ⟨k, rfl, hk, R, MR, SR0⟩ := hrel
            by_cases hkC : k < C
            · obtain ⟨s1, r1, r2, r3⟩ := R.out
              obtain ⟨x, hx⟩ : ∃ x : Wt, x = ⟨ma, mb, txt, F + k, sent⟩ := ⟨_, rfl⟩
              have hmm : (m ++ (List.range k).map fun (j : Nat) => (⟨ma, mb, txt, F + j, sent⟩ : Wt)).length < 1000000 := by simp; omega
              have hnext : (m ++ (List.range k).map fun (j : Nat) => (⟨ma, mb, txt, F + j, sent⟩ : Wt)) ++ [x] = m ++ (List.range (k + 1)).map fun (j : Nat) => (⟨ma, mb, txt, F + j, sent⟩ : Wt) := by
                rw [List.range_succ, List.map_append, ← List.append_assoc, hx]; rfl
              generalize (m ++ (List.range k).map fun (j : Nat) => (⟨ma, mb, txt, F + j, sent⟩ : Wt)) = mm at *
              have NX := Aside0.mk hnext
              have MM := Aside0.mk hmm
              have Fr := Aside0.mk r2
              have L0 := Aside0.mk r1
              have M0 := Aside0.mk MR.out
              have SZ0 := Aside0.mk SR0.out
              have TA := Aside0.mk r3
              have bq : Aside0 (b0 ≠ q) := ⟨by have := HB4.out; omega⟩
              have bs : Aside0 (∀ s2, Fresh we s s2 → s2 ≠ some b0) := ⟨by
                intro s2 h e
                have h4 := HB4.out
                have z := Z5.out
                rcases h with e2 | ⟨g, e2, e3⟩
                · have := h4.1.2.2.1 b0 (by rw [← e2, e]); omega
                · rw [e] at e2; cases e2; omega⟩
              have gt : Aside0 (∀ s2 i, Fresh we s s2 → i < w0.heap.size → s2 = some i → s = some i) := ⟨by
                intro s2 i h hi e
                have z := T5.out.size
                rcases h with e2 | ⟨g, e2, e3⟩
                · rw [← e2, e]
                · rw [e] at e2; cases e2; omega⟩
              have u7 : IntKind.i64.wrap (F + (k : Int)) = F + (k : Int) := IntWalk.i64_in _ (by omega)
              have hk9 := Aside0.mk (show (k : Int) ≤ 9 by omega)
              have k0 := Aside0.mk (show (0 : Int) ≤ (k : Int) by omega)
              clear hnext hmm r1 r2 r3 R MR HS HB4
              go_wp2_with fail
              refine start_ (n := 12) (S := fun w' => True) (ds := []) #[false, false, false, false, false, false, false, false, false, false, false, false] (by kernel_rfl) rfl rfl trivial (fun hHeld => ?_)
              refine with_tabW lnSend.tab12 lnSend.bits12 (fun HT_ HW_ => ?_)
              have L : Aside0 (LH wr.drew l q s1 n (sent + 1) vs scr mm) := ⟨L0.out.touch (Touch.drewN wr 1 (fun _ => False)) id id (fun _ _ => id) (fun _ _ => id)⟩
              have M : Aside0 (Blk wr.drew b0 #[.int .i64 ma, .int .i64 mb, .string txt] 31) := ⟨M0.out⟩
              replace TA : Aside0 (Touch w0 wr.drew (fun k => k = l ∨ k = q ∨ s = some k)) := ⟨TA.out.trans (Touch.drewN wr 1 _)⟩
              have SZ : Aside0 (we.heap.size ≤ wr.drew.heap.size) := ⟨SZ0.out⟩
              generalize wr.drew = w1' at *
              refine inv_at [0, 1, 2, 3, 4, 5, 6, 7, 8, 9, 10, 11] (fun a0_ b a w' => ∃ (gb : Nat) (s2 : Option Nat) (m10_ : Value), a = putSel a0_ b [(0, 79, .pointer (some ⟨l, 0, none⟩)), (1, 80, .pointer (some ⟨l, 0, none⟩)), (2, 81, .pointer (some ⟨l, 3, none⟩)), (3, 82, hq q), (4, 83, .agg #[.int .i64 ma, .int .i64 mb, .string txt]), (5, 84, .int .i64 F), (6, 85, .int .i64 (k : Int)), (7, 86, .int .i64 (F + (k : Int))), (8, 87, .int .i64 sent), (9, 88, .agg #[.int .i64 ma, .int .i64 mb, .string txt, .int .i64 (F + (k : Int)), .int .i64 sent]), (10, 89, m10_), (11, 90, .tuple #[])] ∧ (b 11 = false → LH w' l q s1 n (sent + 1) vs scr mm) ∧ (Blk w' b0 #[.int .i64 ma, .int .i64 mb, .string txt] 31) ∧ (Touch w0 w' (fun k => k = l ∨ k = q ∨ s = some k)) ∧ (b 10 = true → b 11 = false → Blk w' gb #[.int .i64 ma, .int .i64 mb, .string txt, .int .i64 (F + (k : Int)), .int .i64 sent] 72) ∧ (b 11 = true → LH w' l q s2 n (sent + 1) vs scr (mm ++ [x])) ∧ (b 11 = true → Fresh we s s2) ∧ (we.heap.size ≤ w'.heap.size) ∧ (b 10 = true → (m10_ : Value) = .slice (some ⟨gb, 0, none⟩) 1 1)) HT_.out HW_.out (by kernel_rfl) (by kernel_rfl) ?_ ?_ ?_
              · exact ⟨0, none, .bool false, by simp only [putSel, Bool.false_eq_true, if_false], fun _ => L.out, M.out, TA.out, fun h_ => absurd h_ (by decide), fun h_ => absurd h_ (by decide), fun h_ => absurd h_ (by decide), SZ.out, fun h_ => absurd h_ (by decide)⟩
              · skip
                clear L M SZ TA
                refine steps_cons ?_ ?_
                · rintro b a w' ⟨gb, s2, m10_, ha, Q_L, Q_M, Q_TA, Q_Z, Q_L2, Q_Fr2, Q_SZ, Q_X10_⟩ hb_ hon hoff
                  refine ⟨_, rfl, fun K hK => ?_⟩
                  have e0 : a.tmps[0]? = some (.pointer (some ⟨l, 0, none⟩)) := by rw [ha]; exact (putSel_off rfl).trans rfl
                  replace ha := Aside0.mk ha
                  have L := Aside0.mk (Q_L (hoff 11 (by kernel_rfl)))
                  have M := Aside0.mk Q_M
                  have TA := Aside0.mk Q_TA
                  have SZ := Aside0.mk Q_SZ
                  refine value_ (w1 := w') (v := .pointer (some ⟨l, 0, none⟩)) (by rfl) rfl ?_ ?_
                  · go_simp
                    (try simp only [i64_w])
                    try rfl
                  refine hK.out _ _ ⟨gb, s2, m10_, (by rw [ha.out]; exact putSel_upk 0 hb_ rfl rfl rfl), Q_L, Q_M, Q_TA, Q_Z, fun h0_ => absurd ((hoff 11 (by kernel_rfl)).symm.trans h0_) (by decide), fun h0_ => absurd ((hoff 11 (by kernel_rfl)).symm.trans h0_) (by decide), Q_SZ, Q_X10_⟩
                refine steps_cons ?_ ?_
                · rintro b a w' ⟨gb, s2, m10_, ha, Q_L, Q_M, Q_TA, Q_Z, Q_L2, Q_Fr2, Q_SZ, Q_X10_⟩ hb_ hon hoff
                  refine ⟨_, rfl, fun K hK => ?_⟩
                  have e79 : a.tmps[79]? = some (.pointer (some ⟨l, 0, none⟩)) := by rw [ha]; exact putSel_on (e := (0, 79, .pointer (some ⟨l, 0, none⟩))) 0 rfl rfl (hon 0 (by kernel_rfl)) rfl
                  replace ha := Aside0.mk ha
                  have L := Aside0.mk (Q_L (hoff 11 (by kernel_rfl)))
                  have M := Aside0.mk Q_M
                  have TA := Aside0.mk Q_TA
                  have SZ := Aside0.mk Q_SZ
                  refine value_ (w1 := w') (v := .pointer (some ⟨l, 0, none⟩)) (by rfl) rfl ?_ ?_
                  · go_simp
                    (try simp only [i64_w])
                    try rfl
                  refine hK.out _ _ ⟨gb, s2, m10_, (by rw [ha.out]; exact putSel_upk 1 hb_ rfl rfl rfl), Q_L, Q_M, Q_TA, Q_Z, fun h0_ => absurd ((hoff 11 (by kernel_rfl)).symm.trans h0_) (by decide), fun h0_ => absurd ((hoff 11 (by kernel_rfl)).symm.trans h0_) (by decide), Q_SZ, Q_X10_⟩
                refine steps_cons ?_ ?_
                · rintro b a w' ⟨gb, s2, m10_, ha, Q_L, Q_M, Q_TA, Q_Z, Q_L2, Q_Fr2, Q_SZ, Q_X10_⟩ hb_ hon hoff
                  refine ⟨_, rfl, fun K hK => ?_⟩
                  have e80 : a.tmps[80]? = some (.pointer (some ⟨l, 0, none⟩)) := by rw [ha]; exact putSel_on (e := (1, 80, .pointer (some ⟨l, 0, none⟩))) 1 rfl rfl (hon 1 (by kernel_rfl)) rfl
                  replace ha := Aside0.mk ha
                  have L := Aside0.mk (Q_L (hoff 11 (by kernel_rfl)))
                  have M := Aside0.mk Q_M
                  have TA := Aside0.mk Q_TA
                  have SZ := Aside0.mk Q_SZ
                  refine value_ (w1 := w') (v := .pointer (some ⟨l, 3, none⟩)) (by rfl) rfl ?_ ?_
                  · go_simp
                    (try simp only [i64_w])
                    try rfl
                  refine hK.out _ _ ⟨gb, s2, m10_, (by rw [ha.out]; exact putSel_upk 2 hb_ rfl rfl rfl), Q_L, Q_M, Q_TA, Q_Z, fun h0_ => absurd ((hoff 11 (by kernel_rfl)).symm.trans h0_) (by decide), fun h0_ => absurd ((hoff 11 (by kernel_rfl)).symm.trans h0_) (by decide), Q_SZ, Q_X10_⟩
                refine steps_cons ?_ ?_
                · rintro b a w' ⟨gb, s2, m10_, ha, Q_L, Q_M, Q_TA, Q_Z, Q_L2, Q_Fr2, Q_SZ, Q_X10_⟩ hb_ hon hoff
                  refine ⟨_, rfl, fun K hK => ?_⟩
                  have e81 : a.tmps[81]? = some (.pointer (some ⟨l, 3, none⟩)) := by rw [ha]; exact putSel_on (e := (2, 81, .pointer (some ⟨l, 3, none⟩))) 2 rfl rfl (hon 2 (by kernel_rfl)) rfl
                  replace ha := Aside0.mk ha
                  have L := Aside0.mk (Q_L (hoff 11 (by kernel_rfl)))
                  have M := Aside0.mk Q_M
                  have TA := Aside0.mk Q_TA
                  have SZ := Aside0.mk Q_SZ
                  have c0 : w'.cell? ⟨l, 3, none⟩ = some (hq q) := L.out.cell.cell 3
                  refine value_ (w1 := w') (v := hq q) (by rfl) rfl ?_ ?_
                  · go_simp
                    (try simp only [i64_w])
                    try rfl
                  refine hK.out _ _ ⟨gb, s2, m10_, (by rw [ha.out]; exact putSel_upk 3 hb_ rfl rfl rfl), Q_L, Q_M, Q_TA, Q_Z, fun h0_ => absurd ((hoff 11 (by kernel_rfl)).symm.trans h0_) (by decide), fun h0_ => absurd ((hoff 11 (by kernel_rfl)).symm.trans h0_) (by decide), Q_SZ, Q_X10_⟩
                refine steps_cons ?_ ?_
                · rintro b a w' ⟨gb, s2, m10_, ha, Q_L, Q_M, Q_TA, Q_Z, Q_L2, Q_Fr2, Q_SZ, Q_X10_⟩ hb_ hon hoff
                  refine ⟨_, rfl, fun K hK => ?_⟩
                  have e5 : a.tmps[5]? = some (.pointer (some ⟨b0, 0, none⟩)) := by rw [ha]; exact (putSel_off rfl).trans rfl
                  replace ha := Aside0.mk ha
                  have L := Aside0.mk (Q_L (hoff 11 (by kernel_rfl)))
                  have M := Aside0.mk Q_M
                  have TA := Aside0.mk Q_TA
                  have SZ := Aside0.mk Q_SZ
                  have c0 : w'.cell? ⟨b0, 0, none⟩ = some (.int .i64 ma) := M.out.cell 0
                  have c1 : w'.cell? ⟨b0, 1, none⟩ = some (.int .i64 mb) := M.out.cell 1
                  have c2 : w'.cell? ⟨b0, 2, none⟩ = some (.string txt) := M.out.cell 2
                  refine value_ (w1 := w') (v := .agg #[.int .i64 ma, .int .i64 mb, .string txt]) (by rfl) rfl ?_ ?_
                  · go_simp
                    (try simp only [i64_w])
                    try rfl
                  refine hK.out _ _ ⟨gb, s2, m10_, (by rw [ha.out]; exact putSel_upk 4 hb_ rfl rfl rfl), Q_L, Q_M, Q_TA, fun h0_ _ => absurd ((hoff 10 (by kernel_rfl)).symm.trans h0_) (by decide), fun h0_ => absurd ((hoff 11 (by kernel_rfl)).symm.trans h0_) (by decide), fun h0_ => absurd ((hoff 11 (by kernel_rfl)).symm.trans h0_) (by decide), Q_SZ, fun h0_ => absurd ((hoff 10 (by kernel_rfl)).symm.trans h0_) (by decide)⟩
                refine steps_cons ?_ ?_
                · rintro b a w' ⟨gb, s2, m10_, ha, Q_L, Q_M, Q_TA, Q_Z, Q_L2, Q_Fr2, Q_SZ, Q_X10_⟩ hb_ hon hoff
                  refine ⟨_, rfl, fun K hK => ?_⟩
                  have e8 : a.tmps[8]? = some (.int .i64 F) := by rw [ha]; exact (putSel_off rfl).trans rfl
                  replace ha := Aside0.mk ha
                  have L := Aside0.mk (Q_L (hoff 11 (by kernel_rfl)))
                  have M := Aside0.mk Q_M
                  have TA := Aside0.mk Q_TA
                  have SZ := Aside0.mk Q_SZ
                  refine value_ (w1 := w') (v := .int .i64 F) (by rfl) rfl ?_ ?_
                  · go_simp
                    (try simp only [i64_w])
                    try rfl
                  refine hK.out _ _ ⟨gb, s2, m10_, (by rw [ha.out]; exact putSel_upk 5 hb_ rfl rfl rfl), Q_L, Q_M, Q_TA, fun h0_ _ => absurd ((hoff 10 (by kernel_rfl)).symm.trans h0_) (by decide), fun h0_ => absurd ((hoff 11 (by kernel_rfl)).symm.trans h0_) (by decide), fun h0_ => absurd ((hoff 11 (by kernel_rfl)).symm.trans h0_) (by decide), Q_SZ, fun h0_ => absurd ((hoff 10 (by kernel_rfl)).symm.trans h0_) (by decide)⟩
                refine steps_cons ?_ ?_
                · rintro b a w' ⟨gb, s2, m10_, ha, Q_L, Q_M, Q_TA, Q_Z, Q_L2, Q_Fr2, Q_SZ, Q_X10_⟩ hb_ hon hoff
                  refine ⟨_, rfl, fun K hK => ?_⟩
                  have e9 : a.tmps[9]? = some (.int .i64 (k : Int)) := by rw [ha]; exact (putSel_off rfl).trans rfl
                  replace ha := Aside0.mk ha
                  have L := Aside0.mk (Q_L (hoff 11 (by kernel_rfl)))
                  have M := Aside0.mk Q_M
                  have TA := Aside0.mk Q_TA
                  have SZ := Aside0.mk Q_SZ
                  refine value_ (w1 := w') (v := .int .i64 (k : Int)) (by rfl) rfl ?_ ?_
                  · go_simp
                    (try simp only [i64_w])
                    try rfl
                  refine hK.out _ _ ⟨gb, s2, m10_, (by rw [ha.out]; exact putSel_upk 6 hb_ rfl rfl rfl), Q_L, Q_M, Q_TA, fun h0_ _ => absurd ((hoff 10 (by kernel_rfl)).symm.trans h0_) (by decide), fun h0_ => absurd ((hoff 11 (by kernel_rfl)).symm.trans h0_) (by decide), fun h0_ => absurd ((hoff 11 (by kernel_rfl)).symm.trans h0_) (by decide), Q_SZ, fun h0_ => absurd ((hoff 10 (by kernel_rfl)).symm.trans h0_) (by decide)⟩
                refine steps_cons ?_ ?_
                · rintro b a w' ⟨gb, s2, m10_, ha, Q_L, Q_M, Q_TA, Q_Z, Q_L2, Q_Fr2, Q_SZ, Q_X10_⟩ hb_ hon hoff
                  refine ⟨_, rfl, fun K hK => ?_⟩
                  have e84 : a.tmps[84]? = some (.int .i64 F) := by rw [ha]; exact putSel_on (e := (5, 84, .int .i64 F)) 5 rfl rfl (hon 5 (by kernel_rfl)) rfl
                  have e85 : a.tmps[85]? = some (.int .i64 (k : Int)) := by rw [ha]; exact putSel_on (e := (6, 85, .int .i64 (k : Int))) 6 rfl rfl (hon 6 (by kernel_rfl)) rfl
                  replace ha := Aside0.mk ha
                  have L := Aside0.mk (Q_L (hoff 11 (by kernel_rfl)))
                  have M := Aside0.mk Q_M
                  have TA := Aside0.mk Q_TA
                  have SZ := Aside0.mk Q_SZ
                  have u := u7
                  refine value_ (w1 := w') (v := .int .i64 (F + (k : Int))) (by rfl) rfl ?_ ?_
                  · go_simp
                    (try simp only [i64_w])
                    try rfl
                  refine hK.out _ _ ⟨gb, s2, m10_, (by rw [ha.out]; exact putSel_upk 7 hb_ rfl rfl rfl), Q_L, Q_M, Q_TA, fun h0_ _ => absurd ((hoff 10 (by kernel_rfl)).symm.trans h0_) (by decide), fun h0_ => absurd ((hoff 11 (by kernel_rfl)).symm.trans h0_) (by decide), fun h0_ => absurd ((hoff 11 (by kernel_rfl)).symm.trans h0_) (by decide), Q_SZ, fun h0_ => absurd ((hoff 10 (by kernel_rfl)).symm.trans h0_) (by decide)⟩
                refine steps_cons ?_ ?_
                · rintro b a w' ⟨gb, s2, m10_, ha, Q_L, Q_M, Q_TA, Q_Z, Q_L2, Q_Fr2, Q_SZ, Q_X10_⟩ hb_ hon hoff
                  refine ⟨_, rfl, fun K hK => ?_⟩
                  have e7 : a.tmps[7]? = some (.int .i64 sent) := by rw [ha]; exact (putSel_off rfl).trans rfl
                  replace ha := Aside0.mk ha
                  have L := Aside0.mk (Q_L (hoff 11 (by kernel_rfl)))
                  have M := Aside0.mk Q_M
                  have TA := Aside0.mk Q_TA
                  have SZ := Aside0.mk Q_SZ
                  refine value_ (w1 := w') (v := .int .i64 sent) (by rfl) rfl ?_ ?_
                  · go_simp
                    (try simp only [i64_w])
                    try rfl
                  refine hK.out _ _ ⟨gb, s2, m10_, (by rw [ha.out]; exact putSel_upk 8 hb_ rfl rfl rfl), Q_L, Q_M, Q_TA, fun h0_ _ => absurd ((hoff 10 (by kernel_rfl)).symm.trans h0_) (by decide), fun h0_ => absurd ((hoff 11 (by kernel_rfl)).symm.trans h0_) (by decide), fun h0_ => absurd ((hoff 11 (by kernel_rfl)).symm.trans h0_) (by decide), Q_SZ, fun h0_ => absurd ((hoff 10 (by kernel_rfl)).symm.trans h0_) (by decide)⟩
                refine steps_cons ?_ ?_
                · rintro b a w' ⟨gb, s2, m10_, ha, Q_L, Q_M, Q_TA, Q_Z, Q_L2, Q_Fr2, Q_SZ, Q_X10_⟩ hb_ hon hoff
                  refine ⟨_, rfl, fun K hK => ?_⟩
                  have e83 : a.tmps[83]? = some (.agg #[.int .i64 ma, .int .i64 mb, .string txt]) := by rw [ha]; exact putSel_on (e := (4, 83, .agg #[.int .i64 ma, .int .i64 mb, .string txt])) 4 rfl rfl (hon 4 (by kernel_rfl)) rfl
                  have e86 : a.tmps[86]? = some (.int .i64 (F + (k : Int))) := by rw [ha]; exact putSel_on (e := (7, 86, .int .i64 (F + (k : Int)))) 7 rfl rfl (hon 7 (by kernel_rfl)) rfl
                  have e87 : a.tmps[87]? = some (.int .i64 sent) := by rw [ha]; exact putSel_on (e := (8, 87, .int .i64 sent)) 8 rfl rfl (hon 8 (by kernel_rfl)) rfl
                  replace ha := Aside0.mk ha
                  have L := Aside0.mk (Q_L (hoff 11 (by kernel_rfl)))
                  have M := Aside0.mk Q_M
                  have TA := Aside0.mk Q_TA
                  have SZ := Aside0.mk Q_SZ
                  refine value_ (w1 := w') (v := .agg #[.int .i64 ma, .int .i64 mb, .string txt, .int .i64 (F + (k : Int)), .int .i64 sent]) (by rfl) rfl ?_ ?_
                  · go_simp
                    (try simp only [i64_w])
                    try rfl
                  refine hK.out _ _ ⟨gb, s2, m10_, (by rw [ha.out]; exact putSel_upk 9 hb_ rfl rfl rfl), Q_L, Q_M, Q_TA, fun h0_ _ => absurd ((hoff 10 (by kernel_rfl)).symm.trans h0_) (by decide), fun h0_ => absurd ((hoff 11 (by kernel_rfl)).symm.trans h0_) (by decide), fun h0_ => absurd ((hoff 11 (by kernel_rfl)).symm.trans h0_) (by decide), Q_SZ, fun h0_ => absurd ((hoff 10 (by kernel_rfl)).symm.trans h0_) (by decide)⟩
                refine steps_cons ?_ ?_
                · rintro b a w' ⟨gb, s2, m10_, ha, Q_L, Q_M, Q_TA, Q_Z, Q_L2, Q_Fr2, Q_SZ, Q_X10_⟩ hb_ hon hoff
                  refine ⟨_, rfl, fun K hK => ?_⟩
                  have e88 : a.tmps[88]? = some (.agg #[.int .i64 ma, .int .i64 mb, .string txt, .int .i64 (F + (k : Int)), .int .i64 sent]) := by rw [ha]; exact putSel_on (e := (9, 88, .agg #[.int .i64 ma, .int .i64 mb, .string txt, .int .i64 (F + (k : Int)), .int .i64 sent])) 9 rfl rfl (hon 9 (by kernel_rfl)) rfl
                  replace ha := Aside0.mk ha
                  have L := Aside0.mk (Q_L (hoff 11 (by kernel_rfl)))
                  have M := Aside0.mk Q_M
                  have TA := Aside0.mk Q_TA
                  have SZ := Aside0.mk Q_SZ
                  refine value_ (w1 := w'.alloc (.cells #[.int .i64 ma, .int .i64 mb, .string txt, .int .i64 (F + (k : Int)), .int .i64 sent] 72)) (v := .slice (some ⟨w'.heap.size, 0, none⟩) 1 1) (by rfl) rfl ?_ ?_
                  · go_simp
                  refine hK.out _ _ ⟨w'.heap.size, s2, (.slice (some ⟨w'.heap.size, 0, none⟩) 1 1), (by rw [ha.out]; exact putSel_upk 10 hb_ rfl rfl rfl), fun _ => L.out.touch (Touch.alloc w' _ (fun _ => False)) id id (fun _ _ => id) (fun _ _ => id), M.out.alloc _, TA.out.trans (Touch.alloc w' _ _), fun _ _ => Blk.new w' _ _ rfl, fun h0_ => absurd ((hoff 11 (by kernel_rfl)).symm.trans h0_) (by decide), fun h0_ => absurd ((hoff 11 (by kernel_rfl)).symm.trans h0_) (by decide), (by have := SZ.out; simp; omega), fun _ => rfl⟩
                refine steps_cons ?_ ?_
                · rintro b a w' ⟨gb, s2, m10_, ha, Q_L, Q_M, Q_TA, Q_Z, Q_L2, Q_Fr2, Q_SZ, Q_X10_⟩ hb_ hon hoff
                  refine ⟨_, rfl, fun K hK => ?_⟩
                  have e82 : a.tmps[82]? = some (hq q) := by rw [ha]; exact putSel_on (e := (3, 82, hq q)) 3 rfl rfl (hon 3 (by kernel_rfl)) rfl
                  have e89 : a.tmps[89]? = some (m10_) := by rw [ha]; exact putSel_on (e := (10, 89, m10_)) 10 rfl rfl (hon 10 (by kernel_rfl)) rfl
                  rw [Q_X10_ (hon 10 (by kernel_rfl))] at e89
                  replace ha := Aside0.mk ha
                  have L := Aside0.mk (Q_L hb_)
                  have M := Aside0.mk Q_M
                  have TA := Aside0.mk Q_TA
                  have Z := Aside0.mk (Q_Z (hon 10 (by kernel_rfl)) hb_)
                  have SZ := Aside0.mk Q_SZ
                  have hm := m_put q w'
                  refine call_ 42 #[.pointer (some ⟨q, 0, none⟩), .slice (some ⟨gb, 0, none⟩) 1 1] (by rfl) rfl ?_ ?_
                  · exact run_invoke_op Try.func42 (by kernel_rfl) rfl (by kernel_rfl) (by rfl) e82 e89 hm
                  refine (put_any q gb s1 mm x w' L.out.que MM.out (by rw [hx]; exact Z.out)).mono ?_
                  rintro e w2 ⟨rfl, sN, a1, a2, a3⟩
                  refine ⟨_, rfl, ?_⟩
                  have hF : Fresh we s sN := Fr.out.trans (a2.older (Nat.le_refl _)) SZ.out
                  refine hK.out _ _ ⟨gb, sN, m10_, (by rw [ha.out]; exact putSel_upk 11 hb_ rfl rfl rfl), fun h0_ => absurd ((up_self b 11).symm.trans h0_) (by decide), (a3.blk M.out (by rintro (e | e); exact bq.out e; exact bs.out _ Fr.out e)), TA.out.then a3 (by rintro i hi (e | e); exact .inr (.inl e); exact .inr (.inr (gt.out _ _ Fr.out hi e))), fun _ h1_ => absurd ((up_self b 11).symm.trans h1_) (by decide), fun _ => (L.out.que' a3 a2 (a1.perm (List.perm_append_singleton x mm).symm)), fun _ => hF, (Nat.le_trans SZ.out a3.size), Q_X10_⟩
                exact steps_nil
              · rintro b a w' hall ⟨gb, s2, m10_, ha, Q_L, Q_M, Q_TA, Q_Z, Q_L2, Q_Fr2, Q_SZ, Q_X10_⟩
                clear L M SZ TA
                have hb0_ := hall 0 (by kernel_rfl)
                have hb1_ := hall 1 (by kernel_rfl)
                have hb2_ := hall 2 (by kernel_rfl)
                have hb3_ := hall 3 (by kernel_rfl)
                have hb4_ := hall 4 (by kernel_rfl)
                have hb5_ := hall 5 (by kernel_rfl)
                have hb6_ := hall 6 (by kernel_rfl)
                have hb7_ := hall 7 (by kernel_rfl)
                have hb8_ := hall 8 (by kernel_rfl)
                have hb9_ := hall 9 (by kernel_rfl)
                have hb10_ := hall 10 (by kernel_rfl)
                have hb11_ := hall 11 (by kernel_rfl)
                subst ha
                obtain rfl := Q_X10_ hb10_
                simp only [putSel, hb0_, hb1_, hb2_, hb3_, hb4_, hb5_, hb6_, hb7_, hb8_, hb9_, hb10_, hb11_, if_true, Act.put, List.setIfInBounds_toArray, List.set_cons_zero, List.set_cons_succ]
                clear Q_L
                have M := Aside0.mk Q_M
                clear Q_M
                have TA := Aside0.mk Q_TA
                clear Q_TA
                clear Q_Z
                have L2 := Aside0.mk (Q_L2 hb11_)
                clear Q_L2
                have Fr2 := Aside0.mk (Q_Fr2 hb11_)
                clear Q_Fr2
                have SZ := Aside0.mk Q_SZ
                clear Q_SZ
                clear hall hb0_ hb1_ hb2_ hb3_ hb4_ hb5_ hb6_ hb7_ hb8_ hb9_ hb10_ hb11_
                go_wp2
                go_roundw
                case rel =>
                  refine ⟨k + 1, rfl, by omega, Lib.hid ⟨s2, ?_, Fr2.out, TA.out⟩, Lib.hid M.out, Lib.hid SZ.out⟩
                  rw [← NX.out]
                  exact L2.out
                case measure => simp [intOf]; omega
            · have e : k = C := by omega
              subst e
              go_wp2
              go_end0
              obtain ⟨s1, r1, r2, r3⟩ := R.out
              refine ⟨rfl, s1, ?_, r2.older T5.out.size, r3⟩
              rw [HS.out]
              exact r1

end Go.Proofs.Ytemcbaacefjfnaa
