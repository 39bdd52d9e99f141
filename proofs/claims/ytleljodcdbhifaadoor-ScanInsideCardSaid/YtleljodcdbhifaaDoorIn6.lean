/- ScRfT, ScRfW, ScRfN, ScRfI, ScFew, ScInside: merged by wip/prune.py. -/
import Derived.Test.YtleljodcdbhifaaDoorWInvWords
import Derived.Test.YtleljodcdbhifaaDoorIn2
import Derived.Test.YtleljodcdbhifaaDoorIn4
import Derived.Test.YtleljodcdbhifaaDoorIn5
/- The reference's pieces: walked. -/
set_option linter.unusedVariables false
set_option linter.unusedSimpArgs false
namespace Go.Proofs.YtleljodcdbhifaaDoor
open Go.RowKit Go.Proofs.YtleljodcdbhifaaDoorW.PrintWords Go.Proofs.YtleljodcdbhifaaDoorW.PrintLast Go.Proofs.YtleljodcdbhifaaDoorW.PrintMore Hy
attribute [local go_sem ↓] Go.wp_at_zero Go.wp_at_succ
def rfPcs.T9 : Bool × List (List Nat × List Nat) := (true, [([], []), ([], []), ([], []), ([1, 2], [1, 2]), ([3], [3]), ([4], [4]), ([], []), ([6], [6]), ([5, 7], [5, 7]), ([], []), ([], []), ([9, 10], [9, 10]), ([11], [11]), ([12], [12]), ([], []), ([14], [14]), ([13, 15], [13, 15]), ([8, 16], [8, 16]), ([17], [17]), ([0, 18], [0, 18]), ([19, 19, 0, 1, 2, 3, 4, 5, 6, 7, 8, 9, 10, 11, 12, 13, 14, 15, 16, 17, 18, 19], [0, 19])])
def rfPcs.B9 : List Nat := [0, 0, 0, 6, 14, 30, 0, 64, 254, 0, 0, 1536, 3584, 7680, 0, 16384, 65024, 131070, 262142, 524287, 1048575]
theorem rfPcs.tab9 : rtab .any (opsOf Tryd.f51 9) = rfPcs.T9 := by kernel_rfl
theorem rfPcs.bits9 : waitsOk rfPcs.T9.2 rfPcs.B9 = true := by kernel_rfl
def rfPcs.T20 : Bool × List (List Nat × List Nat) := (true, [([], []), ([], []), ([], []), ([], []), ([], []), ([4], [4]), ([], []), ([5, 6], [5, 6]), ([3, 7], [3, 7]), ([8], [8]), ([1, 2, 9], [1, 2, 9]), ([10], [10]), ([0, 11], [0, 11]), ([12, 12, 0, 1, 2, 3, 4, 5, 6, 7, 8, 9, 10, 11, 12], [0, 12])])
def rfPcs.B20 : List Nat := [0, 0, 0, 0, 0, 16, 0, 112, 248, 504, 1022, 2046, 4095, 8191]
theorem rfPcs.tab20 : rtab .any (opsOf Tryd.f51 20) = rfPcs.T20 := by kernel_rfl
theorem rfPcs.bits20 : waitsOk rfPcs.T20.2 rfPcs.B20 = true := by kernel_rfl
/-- one element appended, made in block g -/
theorem append_kd {α : Type} {d : Kd α} {w0 w : World} {base : Nat} {v : Value} {xs : List α} (t e : TypeId) (z : Value) (bytes : Nat) (ht : Tryd.prog.underlying t = some (.slice e)) (hinfo : (Tryd.prog.info? e).map (fun i => (i.zero, i.size, i.bytes)) = some (some z, d.sz, bytes)) (hz : z.cells.size = d.sz) (hs0 : 0 < d.sz) (hb0 : 0 < bytes)
    (hR : d.R e w base (fun _ => True) v xs) (hB : Below base w0 w) (hbase : base ≤ w.heap.size) (g : Nat) (p : α) (cs : List Value) (hblk : Blk w g cs.toArray e) (hp : d.M w base (fun _ => False) p cs) (hl : (xs.length + 1) * bytes ≤ 140737488355328) :
    ∃ v' w', (Builtin.append_ #[t, t] t #[v, .slice (some ⟨g, 0, none⟩) 1 1]).run Tryd.prog w = .ok v' w' ∧ d.R e w' base (fun _ => True) v' (xs ++ [p]) ∧ Below base w0 w' ∧ w.grownBy w' v.ownBlock := by
  obtain ⟨h0, inner, hown, hr⟩ := hR
  obtain ⟨i0, hi, hzz⟩ := Option.map_eq_some_iff.1 hinfo
  simp only [Prod.mk.injEq] at hzz
  obtain ⟨hz0, hz1, hz2⟩ := hzz
  have hlen : xs.length + 1 ≤ 140737488355328 := Nat.le_trans (Nat.le_mul_of_pos_right _ hb0) hl
  obtain ⟨v1, w1, hrun, ho, hg, _, hat⟩ := run_append_own_at (P := Tryd.prog) w base t t e i0 z d.sz bytes ht hi hz0 hz1 hz2 hz hs0 v xs.length inner hown ⟨g, 0, none⟩ 1 1 cs (by rw [Nat.one_mul]; exact d.K_len (d.K_of_M hp)) (by
    intro j u hu
    have hb := hblk.cell j
    rw [add_plain, hb]
    simpa using hu) (d.K_one (d.K_of_M hp)) (by simp only [maxLen]; omega) hl hbase
  exact ⟨v1, w1, hrun, Kd.R_appended (okp := fun _ => False) h0 hr hp (fun _ h => h.elim) (fun _ _ => trivial) ho hg (hat.imp_right fun h => ⟨_, h, Nat.le_refl _⟩), hB.grown hg hbase (own_base hown), hg⟩
theorem run_append_opU {P : Program} {a : Act} {oi : Oper} {t : TypeId} {x v : Nat} {p y u : Value} {w w1 : World} (ho : oi.op = .call { callee := .builtin .append, args := #[.tmp x, .tmp v], argTypes := #[t, t] }) (e1 : a.tmps[x]? = some p) (e2 : a.tmps[v]? = some y) (h : (Builtin.append_ #[t, t] oi.type #[p, y]).run P w = .ok u w1) : (execOp a.eval oi).run P w = .ok (.value u) w1 := by
  unfold execOp
  simp only [ho, resolve, invoke, builtin, Sem.run_bind, Sem.run_pure, Result.andThen_ok, List.map_toArray, List.map_cons, List.map_nil, eval_of e1, eval_of e2, h]
set_option maxHeartbeats 1000000 in
theorem twiceR_any (p : S30) (w : World) (h0 : -4096 ≤ p.f0 ∧ p.f0 ≤ 4096) (h1 : -4096 ≤ p.f1 ∧ p.f1 ≤ 4096) :
    Calls Tryd.prog 63 #[.agg #[.int .i64 p.f0, .int .i64 p.f1, .bool p.f2]] w fun e w' => e = .returned (.agg #[.int .i64 (twR p).f0, .int .i64 (twR p).f1, .bool (twR p).f2]) ∧ Below w.heap.size w w' := by
  obtain ⟨a, b, c⟩ := p
  simp only [twR] at *
  go_enter Tryd.func63, Tryd.ntmps63
  go_wp2
  refine bodyPost_ret (res_c rfl _ _ (w.heap.size + 1) 30 #[_, _, _] _ rfl (Blk.new (w.alloc _) _ _ (by simp [World.size_alloc])) rfl Tryd.underlying30 (by kernel_rfl)) rfl ?_
  exact ⟨rfl, balloc (balloc (Below.refl _ _) _) _⟩
def nearC (c : List S30) : Prop := ∀ p ∈ c, -4096 ≤ p.f0 ∧ p.f0 ≤ 4096 ∧ -4096 ≤ p.f1 ∧ p.f1 ≤ 4096
theorem ptAt_near {c : List S30} (h : nearC c) (h0 : 0 < c.length) (k : Nat) : -4096 ≤ (ptAt c k).f0 ∧ (ptAt c k).f0 ≤ 4096 ∧ -4096 ≤ (ptAt c k).f1 ∧ (ptAt c k).f1 ≤ 4096 := h _ (ptAt_mem k h0)
theorem ptsR_len (c : List S30) : ∀ n, (ptsR c n).length ≤ 2 * n
  | 0 => Nat.le_refl 0
  | n + 1 => by
    have h := ptsR_len c n
    have e : (ptsR c (n + 1)).length = (ptsR c n).length + (blkR (ptAt c n) (ptAt c (n + 1))).length := by rw [ptsR, List.length_append]
    rw [blkR_len] at e
    split at e <;> omega
theorem outR_len (L : List S30) : ∀ n, (outR L n).length ≤ n
  | 0 => Nat.le_refl 0
  | n + 1 => by
    have h := outR_len L n
    rw [outR, List.length_append]
    have : (itR (ptAt L n) (ptAt L (n + 1)) (ptAt L (n + 2))).length ≤ 1 := by
      unfold itR
      split
      · split <;> simp
      · simp
    omega
theorem tmod_nat {a b : Nat} : (a : Int).tmod (b : Int) = ((a % b : Nat) : Int) := by rw [Int.tmod_eq_emod_of_nonneg (by omega)]; exact (Int.natCast_emod a b).symm
set_option maxRecDepth 100000 in
set_option maxHeartbeats 4000000 in
theorem piecesR_any (l : List S30) (A : Option Addr) (c : Nat) (w : World) (hC : Kd.C k30 w A l.length l) (hl : l.length ≤ 1000) (hn : nearC l) :
    Calls Tryd.prog 51 #[.slice A l.length c] w fun e w' => ∃ v, e = .returned v ∧ Kd.R k89 89 w' w.heap.size (fun _ => True) v (pcsR l) ∧ Below w.heap.size w w' := by
  have HC := Lib.hid hC
  have HN := Lib.hid hn
  clear hC hn
  go_enter Tryd.func51, Tryd.ntmps51
  go_wp2_with fail
  go_loopw [3, 5] (fun v i wr => ∃ k : Nat, i = .int .i64 k ∧ k ≤ l.length ∧ Hid (Below w.heap.size w wr) ∧ Hid (Kd.R k30 30 wr w.heap.size (fun _ => True) v (ptsR l k))) (fun _ i _ => l.length - (intOf i).toNat)
  case atStart => exact ⟨0, rfl, Nat.zero_le _, Lib.hid (Below.refl _ _), Lib.hid (Kd.R_nil _ _ _ _ _)⟩
  case round =>
    obtain ⟨k, rfl, hk, HBr, HV⟩ := hrel
    by_cases hlt : k < l.length
    · have d1 : decide (k < l.length) = true := decide_eq_true hlt
      have hp : 0 < l.length := by omega
      obtain ⟨Av, cv, rfl⟩ := Kd.R_slice HV.out
      obtain ⟨ad, rfl, p0, p1, p2⟩ := pt_cells HC.out k hlt
      obtain ⟨ad', had, q0, q1, q2⟩ := pt_cells HC.out ((k + 1) % l.length) (Nat.mod_lt _ hp)
      cases had
      rw [show l.getD k z30 = ptAt l k from (ptAt_lt l hlt).symm] at p0 p1 p2
      rw [show l.getD ((k + 1) % l.length) z30 = ptAt l (k + 1) from rfl] at q0 q1 q2
      have np := ptAt_near HN.out hp k
      have nq := ptAt_near HN.out hp (k + 1)
      have hz : ((l.length : Int) == 0) = false := beq_eq_false_iff_ne.2 (by omega)
      have hm : ((k : Int) + 1).tmod (l.length : Int) = (((k + 1) % l.length : Nat) : Int) := by rw [Int.tmod_eq_emod_of_nonneg (by omega)]; exact (Int.natCast_emod (k + 1) l.length).symm
      have hr : (k + 1) % l.length < l.length := Nat.mod_lt _ hp
      have HS : Hid (ptsR l (k + 1) = ptsR l k ++ blkR (ptAt l k) (ptAt l (k + 1))) := Lib.hid rfl
      have hpl := ptsR_len l k
      generalize ptAt l k = P at *
      generalize ptAt l (k + 1) = Q at *
      generalize ptsR l k = ps at *
      generalize (k + 1) % l.length = r at *
      obtain ⟨Px, Py, Pf⟩ := P
      obtain ⟨Qx, Qy, Qf⟩ := Q
      dsimp only at p0 p1 p2 q0 q1 q2 np nq
      have b0 : (0 : Int) ≤ (r : Int) := by omega
      have b1 : (r : Int) < (l.length : Int) := by omega
      have b2 : (0 : Int) ≤ (k : Int) := by omega
      have b3 : (k : Int) < (l.length : Int) := by omega
      have P0 := Lib.hid p0
      have P1 := Lib.hid p1
      have P2 := Lib.hid p2
      replace q0 := pw_cell_below HBr.out q0
      replace q1 := pw_cell_below HBr.out q1
      replace q2 := pw_cell_below HBr.out q2
      clear p0 p1 p2
      go_upto_region 7 with fail
      have hne0 := Kd.R_ne_new HV.out 0
      obtain ⟨w1, g, hw, hg, B1, HB1, _⟩ := new_box wr #[.int .i64 Qx, .int .i64 Qy, .bool Qf] 30
      rw [hw, hg]
      rw [Nat.add_zero, hg] at hne0
      have HNE := Lib.hid hne0
      have HBa := Lib.hid (bthen' HBr.out HB1.out)
      have HVa := Lib.hid (Kd.R_below HV.out HB1.out)
      have p0 := pw_cell_below HBa.out P0.out
      have p1 := pw_cell_below HBa.out P1.out
      have p2 := pw_cell_below HBa.out P2.out
      clear q0 q1 q2 hw hg HBr HV HB1 hne0
      go_wp2_with fail
      refine (twiceR_any ⟨Px, Py, Pf⟩ w1 ⟨np.1, np.2.1⟩ np.2.2).mono ?_
      rintro e w2 ⟨rfl, hb2⟩
      have B2 := Lib.hid (B1.out.below hb2)
      have HBb := Lib.hid (bthen' HBa.out hb2)
      have HVb := Lib.hid (Kd.R_below HVa.out hb2)
      clear p0 p1 p2 hb2 HBa HVa B1
      go_wp2_with (at_builtin; go_loud (refine Kd.R_append k30 (W := w2) (w0 := w) w.heap.size rfl (.tmp 26) (.tmp 32) 28 30 _ 24 rfl Tryd.underlying28 info30 rfl (by decide) (by omega) (.slice Av ps.length cv) ps (twR ⟨Px, Py, Pf⟩) [.int .i64 (2 * Px), .int .i64 (2 * Py), .bool Pf] (fun _ => True) (fun _ => False) rfl rfl (k30_mkM _ _ _ (twR ⟨Px, Py, Pf⟩)) (fun _ h => h.elim) (fun _ _ => trivial) HVb.out HBb.out HBb.out.size (by omega) ?_); intro v3 w3 hR3 hB3 hG3 hat3; have B3 := Lib.hid (show Blk w3 g #[.int .i64 Qx, .int .i64 Qy, .bool Qf] 30 from (hG3.block g B2.out.lt HNE.out).trans B2.out); have HNE3 := Lib.hid (show some g ≠ v3.ownBlock by rcases hat3 with h | ⟨b, h, hb⟩; (· rw [h]; exact HNE.out); (· rw [h]; intro e; cases e; have := B2.out.lt; omega)); have HR3 := Lib.hid hR3; have HB3 := Lib.hid hB3; have p0 := pw_cell_below hB3 P0.out; have p1 := pw_cell_below hB3 P1.out; have p2 := pw_cell_below hB3 P2.out; have f0 := B3.out.cell 0; have f1 := B3.out.cell 1; have f2 := B3.out.cell 2; simp only [List.getElem?_toArray, List.getElem?_cons_zero, List.getElem?_cons_succ] at f0 f1 f2; clear hR3 hB3 hG3 hat3 HVb HBb B2 HNE; cases Pf <;> cases Qf)
      all_goals try go_wp2_with fail
      · simp only [blkR, true_and, if_true] at HS
        have HS' := Lib.hid HS.out
        clear HS
        obtain ⟨sx, hsx⟩ : ∃ s, Px + Qx = s := ⟨_, rfl⟩
        obtain ⟨sy, hsy⟩ : ∃ s, Py + Qy = s := ⟨_, rfl⟩
        have YX := Aside0.mk (show IntKind.i64.wrap (Px + Qx) = sx by rw [← hsx]; exact IntWalk.i64_in _ (by omega))
        have YY := Aside0.mk (show IntKind.i64.wrap (Py + Qy) = sy by rw [← hsy]; exact IntWalk.i64_in _ (by omega))
        have SX := Aside0.mk hsx
        have SY := Aside0.mk hsy
        have HL := Aside0.mk (show ps.length ≤ 4000 by omega)
        have Y0 := Aside0.mk b2
        have Y1 := Aside0.mk b3
        have HNP := Lib.hid (show (k : Int) + 1 ≤ l.length ∧ k < l.length by omega)
        clear p0 p1 p2 f0 f1 f2 hsx hsy np nq hpl hz hm hr b0 b1 b2 b3 d1 hp
        refine start_ (n := 21) (S := fun w' => True) (ds := []) #[false, false, false, false, false, false, false, false, false, false, false, false, false, false, false, false, false, false, false, false, false] (by kernel_rfl) rfl rfl trivial (fun hHeld => ?_)
        refine with_tabW rfPcs.tab9 rfPcs.bits9 (fun HT_ HW_ => ?_)
        have HB : Aside0 (Below w.heap.size w w3.drew) := ⟨bdrew HB3.out⟩
        have NB : Aside0 (Blk w3.drew g #[.int .i64 Qx, .int .i64 Qy, .bool false] 30) := ⟨B3.out.drew⟩
        have RV : Aside0 (Kd.R k30 30 w3.drew w.heap.size (fun _ => True) v3 (ps ++ [twR ⟨Px, Py, false⟩])) := ⟨Kd.R_below HR3.out (below_drew (Below.refl _ _))⟩
        generalize hwd : w3.drew = w1' at *
        clear hwd
        refine inv_at [0, 1, 2, 3, 4, 5, 6, 7, 8, 9, 10, 11, 12, 13, 14, 15, 16, 17, 18, 19, 20] (fun a0_ b a w' => ∃ (ge : Nat) (v1 : Value) (m18_ : Value) (m20_ : Value), a = putSel a0_ b [(0, 45, v3), (1, 46, .slice (some ad) l.length c), (2, 47, .int .i64 k), (3, 48, .pointer (some (ad.add (k * 3)))), (4, 49, .pointer (some (ad.add (k * 3)))), (5, 50, .int .i64 Px), (6, 51, .pointer (some ⟨g, 0, none⟩)), (7, 52, .int .i64 Qx), (8, 53, .int .i64 sx), (9, 54, .slice (some ad) l.length c), (10, 55, .int .i64 k), (11, 56, .pointer (some (ad.add (k * 3)))), (12, 57, .pointer (some ⟨(ad.add (k * 3)).block, (ad.add (k * 3)).off + 1, none⟩)), (13, 58, .int .i64 Py), (14, 59, .pointer (some ⟨g, 1, none⟩)), (15, 60, .int .i64 Qy), (16, 61, .int .i64 sy), (17, 62, .agg #[.int .i64 sx, .int .i64 sy, .bool true]), (18, 63, m18_), (19, 64, v1), (20, 3, m20_)] ∧ (Below w.heap.size w w') ∧ (b 19 = false → Blk w' g #[.int .i64 Qx, .int .i64 Qy, .bool false] 30) ∧ (b 19 = false → Kd.R k30 30 w' w.heap.size (fun _ => True) v3 (ps ++ [twR ⟨Px, Py, false⟩])) ∧ (b 18 = true → b 19 = false → Blk w' ge #[.int .i64 sx, .int .i64 sy, .bool true] 30) ∧ (b 19 = true → Kd.R k30 30 w' w.heap.size (fun _ => True) v1 ((ps ++ [twR ⟨Px, Py, false⟩]) ++ [(mdR ⟨Px, Py, false⟩ ⟨Qx, Qy, false⟩)])) ∧ (b 18 = true → (m18_ : Value) = .slice (some ⟨ge, 0, none⟩) 1 1) ∧ (b 20 = true → (m20_ : Value) = v1)) HT_.out HW_.out (by kernel_rfl) (by kernel_rfl) ?_ ?_ ?_
        · exact ⟨0, undef, .bool false, .bool false, by simp only [putSel, Bool.false_eq_true, if_false], HB.out, fun _ => NB.out, fun _ => RV.out, fun h_ => absurd h_ (by decide), fun h_ => absurd h_ (by decide), fun h_ => absurd h_ (by decide), fun h_ => absurd h_ (by decide)⟩
        · skip
          clear HB NB RV
          refine steps_cons ?_ ?_
          · rintro b a w' ⟨ge, v1, m18_, m20_, ha, Q_HB, Q_NB, Q_RV, Q_EB, Q_R1, Q_X18_, Q_X20_⟩ hb_ hon hoff
            refine ⟨_, rfl, fun K hK => ?_⟩
            have e3 : a.tmps[3]? = some (v3) := by rw [ha]; exact (putSel_not (hoff 20 (by kernel_rfl)) rfl).trans rfl
            replace ha := Aside0.mk ha
            have HB := Aside0.mk Q_HB
            have NB := Aside0.mk (Q_NB (hoff 19 (by kernel_rfl)))
            have RV := Aside0.mk (Q_RV (hoff 19 (by kernel_rfl)))
            refine value_ (w1 := w') (v := v3) (by rfl) rfl ?_ ?_
            · go_simp
              (try simp only [i64_w])
              try rfl
            refine hK.out _ _ ⟨ge, v1, m18_, m20_, (by rw [ha.out]; exact putSel_upk 0 hb_ rfl rfl rfl), Q_HB, Q_NB, Q_RV, Q_EB, fun h0_ => absurd ((hoff 19 (by kernel_rfl)).symm.trans h0_) (by decide), Q_X18_, fun h0_ => absurd ((hoff 20 (by kernel_rfl)).symm.trans h0_) (by decide)⟩
          refine steps_cons ?_ ?_
          · rintro b a w' ⟨ge, v1, m18_, m20_, ha, Q_HB, Q_NB, Q_RV, Q_EB, Q_R1, Q_X18_, Q_X20_⟩ hb_ hon hoff
            refine ⟨_, rfl, fun K hK => ?_⟩
            have e0 : a.tmps[0]? = some (.slice (some ad) l.length c) := by rw [ha]; exact (putSel_off rfl).trans rfl
            replace ha := Aside0.mk ha
            have HB := Aside0.mk Q_HB
            have NB := Aside0.mk (Q_NB (hoff 19 (by kernel_rfl)))
            have RV := Aside0.mk (Q_RV (hoff 19 (by kernel_rfl)))
            refine value_ (w1 := w') (v := .slice (some ad) l.length c) (by rfl) rfl ?_ ?_
            · go_simp
              (try simp only [i64_w])
              try rfl
            refine hK.out _ _ ⟨ge, v1, m18_, m20_, (by rw [ha.out]; exact putSel_upk 1 hb_ rfl rfl rfl), Q_HB, Q_NB, Q_RV, fun h0_ _ => absurd ((hoff 18 (by kernel_rfl)).symm.trans h0_) (by decide), fun h0_ => absurd ((hoff 19 (by kernel_rfl)).symm.trans h0_) (by decide), fun h0_ => absurd ((hoff 18 (by kernel_rfl)).symm.trans h0_) (by decide), fun h0_ => absurd ((hoff 20 (by kernel_rfl)).symm.trans h0_) (by decide)⟩
          refine steps_cons ?_ ?_
          · rintro b a w' ⟨ge, v1, m18_, m20_, ha, Q_HB, Q_NB, Q_RV, Q_EB, Q_R1, Q_X18_, Q_X20_⟩ hb_ hon hoff
            refine ⟨_, rfl, fun K hK => ?_⟩
            have e5 : a.tmps[5]? = some (.int .i64 k) := by rw [ha]; exact (putSel_off rfl).trans rfl
            replace ha := Aside0.mk ha
            have HB := Aside0.mk Q_HB
            have NB := Aside0.mk (Q_NB (hoff 19 (by kernel_rfl)))
            have RV := Aside0.mk (Q_RV (hoff 19 (by kernel_rfl)))
            refine value_ (w1 := w') (v := .int .i64 k) (by rfl) rfl ?_ ?_
            · go_simp
              (try simp only [i64_w])
              try rfl
            refine hK.out _ _ ⟨ge, v1, m18_, m20_, (by rw [ha.out]; exact putSel_upk 2 hb_ rfl rfl rfl), Q_HB, Q_NB, Q_RV, fun h0_ _ => absurd ((hoff 18 (by kernel_rfl)).symm.trans h0_) (by decide), fun h0_ => absurd ((hoff 19 (by kernel_rfl)).symm.trans h0_) (by decide), fun h0_ => absurd ((hoff 18 (by kernel_rfl)).symm.trans h0_) (by decide), fun h0_ => absurd ((hoff 20 (by kernel_rfl)).symm.trans h0_) (by decide)⟩
          refine steps_cons ?_ ?_
          · rintro b a w' ⟨ge, v1, m18_, m20_, ha, Q_HB, Q_NB, Q_RV, Q_EB, Q_R1, Q_X18_, Q_X20_⟩ hb_ hon hoff
            refine ⟨_, rfl, fun K hK => ?_⟩
            have e46 : a.tmps[46]? = some (.slice (some ad) l.length c) := by rw [ha]; exact putSel_on (e := (1, 46, .slice (some ad) l.length c)) 1 rfl rfl (hon 1 (by kernel_rfl)) rfl
            have e47 : a.tmps[47]? = some (.int .i64 k) := by rw [ha]; exact putSel_on (e := (2, 47, .int .i64 k)) 2 rfl rfl (hon 2 (by kernel_rfl)) rfl
            replace ha := Aside0.mk ha
            have HB := Aside0.mk Q_HB
            have NB := Aside0.mk (Q_NB (hoff 19 (by kernel_rfl)))
            have RV := Aside0.mk (Q_RV (hoff 19 (by kernel_rfl)))
            have y0 := Y0.out
            have y1 := Y1.out
            refine value_ (w1 := w') (v := .pointer (some (ad.add (k * 3)))) (by rfl) rfl ?_ ?_
            · go_simp
              (try simp only [i64_w])
              try rfl
            refine hK.out _ _ ⟨ge, v1, m18_, m20_, (by rw [ha.out]; exact putSel_upk 3 hb_ rfl rfl rfl), Q_HB, Q_NB, Q_RV, fun h0_ _ => absurd ((hoff 18 (by kernel_rfl)).symm.trans h0_) (by decide), fun h0_ => absurd ((hoff 19 (by kernel_rfl)).symm.trans h0_) (by decide), fun h0_ => absurd ((hoff 18 (by kernel_rfl)).symm.trans h0_) (by decide), fun h0_ => absurd ((hoff 20 (by kernel_rfl)).symm.trans h0_) (by decide)⟩
          refine steps_cons ?_ ?_
          · rintro b a w' ⟨ge, v1, m18_, m20_, ha, Q_HB, Q_NB, Q_RV, Q_EB, Q_R1, Q_X18_, Q_X20_⟩ hb_ hon hoff
            refine ⟨_, rfl, fun K hK => ?_⟩
            have e48 : a.tmps[48]? = some (.pointer (some (ad.add (k * 3)))) := by rw [ha]; exact putSel_on (e := (3, 48, .pointer (some (ad.add (k * 3))))) 3 rfl rfl (hon 3 (by kernel_rfl)) rfl
            replace ha := Aside0.mk ha
            have HB := Aside0.mk Q_HB
            have NB := Aside0.mk (Q_NB (hoff 19 (by kernel_rfl)))
            have RV := Aside0.mk (Q_RV (hoff 19 (by kernel_rfl)))
            refine value_ (w1 := w') (v := .pointer (some (ad.add (k * 3)))) (by rfl) rfl ?_ ?_
            · go_simp
              (try simp only [i64_w])
              try rfl
            refine hK.out _ _ ⟨ge, v1, m18_, m20_, (by rw [ha.out]; exact putSel_upk 4 hb_ rfl rfl rfl), Q_HB, Q_NB, Q_RV, fun h0_ _ => absurd ((hoff 18 (by kernel_rfl)).symm.trans h0_) (by decide), fun h0_ => absurd ((hoff 19 (by kernel_rfl)).symm.trans h0_) (by decide), fun h0_ => absurd ((hoff 18 (by kernel_rfl)).symm.trans h0_) (by decide), fun h0_ => absurd ((hoff 20 (by kernel_rfl)).symm.trans h0_) (by decide)⟩
          refine steps_cons ?_ ?_
          · rintro b a w' ⟨ge, v1, m18_, m20_, ha, Q_HB, Q_NB, Q_RV, Q_EB, Q_R1, Q_X18_, Q_X20_⟩ hb_ hon hoff
            refine ⟨_, rfl, fun K hK => ?_⟩
            have e49 : a.tmps[49]? = some (.pointer (some (ad.add (k * 3)))) := by rw [ha]; exact putSel_on (e := (4, 49, .pointer (some (ad.add (k * 3))))) 4 rfl rfl (hon 4 (by kernel_rfl)) rfl
            replace ha := Aside0.mk ha
            have HB := Aside0.mk Q_HB
            have NB := Aside0.mk (Q_NB (hoff 19 (by kernel_rfl)))
            have RV := Aside0.mk (Q_RV (hoff 19 (by kernel_rfl)))
            have z5 : w'.cell? (ad.add (k * 3)) = some (.int .i64 Px) := pw_cell_below HB.out P0.out
            refine value_ (w1 := w') (v := .int .i64 Px) (by rfl) rfl ?_ ?_
            · go_simp
              (try simp only [i64_w])
              try rfl
            refine hK.out _ _ ⟨ge, v1, m18_, m20_, (by rw [ha.out]; exact putSel_upk 5 hb_ rfl rfl rfl), Q_HB, Q_NB, Q_RV, fun h0_ _ => absurd ((hoff 18 (by kernel_rfl)).symm.trans h0_) (by decide), fun h0_ => absurd ((hoff 19 (by kernel_rfl)).symm.trans h0_) (by decide), fun h0_ => absurd ((hoff 18 (by kernel_rfl)).symm.trans h0_) (by decide), fun h0_ => absurd ((hoff 20 (by kernel_rfl)).symm.trans h0_) (by decide)⟩
          refine steps_cons ?_ ?_
          · rintro b a w' ⟨ge, v1, m18_, m20_, ha, Q_HB, Q_NB, Q_RV, Q_EB, Q_R1, Q_X18_, Q_X20_⟩ hb_ hon hoff
            refine ⟨_, rfl, fun K hK => ?_⟩
            have e6 : a.tmps[6]? = some (.pointer (some ⟨g, 0, none⟩)) := by rw [ha]; exact (putSel_off rfl).trans rfl
            replace ha := Aside0.mk ha
            have HB := Aside0.mk Q_HB
            have NB := Aside0.mk (Q_NB (hoff 19 (by kernel_rfl)))
            have RV := Aside0.mk (Q_RV (hoff 19 (by kernel_rfl)))
            refine value_ (w1 := w') (v := .pointer (some ⟨g, 0, none⟩)) (by rfl) rfl ?_ ?_
            · go_simp
              (try simp only [i64_w])
              try rfl
            refine hK.out _ _ ⟨ge, v1, m18_, m20_, (by rw [ha.out]; exact putSel_upk 6 hb_ rfl rfl rfl), Q_HB, Q_NB, Q_RV, fun h0_ _ => absurd ((hoff 18 (by kernel_rfl)).symm.trans h0_) (by decide), fun h0_ => absurd ((hoff 19 (by kernel_rfl)).symm.trans h0_) (by decide), fun h0_ => absurd ((hoff 18 (by kernel_rfl)).symm.trans h0_) (by decide), fun h0_ => absurd ((hoff 20 (by kernel_rfl)).symm.trans h0_) (by decide)⟩
          refine steps_cons ?_ ?_
          · rintro b a w' ⟨ge, v1, m18_, m20_, ha, Q_HB, Q_NB, Q_RV, Q_EB, Q_R1, Q_X18_, Q_X20_⟩ hb_ hon hoff
            refine ⟨_, rfl, fun K hK => ?_⟩
            have e51 : a.tmps[51]? = some (.pointer (some ⟨g, 0, none⟩)) := by rw [ha]; exact putSel_on (e := (6, 51, .pointer (some ⟨g, 0, none⟩))) 6 rfl rfl (hon 6 (by kernel_rfl)) rfl
            replace ha := Aside0.mk ha
            have HB := Aside0.mk Q_HB
            have NB := Aside0.mk (Q_NB (hoff 19 (by kernel_rfl)))
            have RV := Aside0.mk (Q_RV (hoff 19 (by kernel_rfl)))
            have z7 : w'.cell? ⟨g, 0, none⟩ = some (.int .i64 Qx) := NB.out.cell 0
            refine value_ (w1 := w') (v := .int .i64 Qx) (by rfl) rfl ?_ ?_
            · go_simp
              (try simp only [i64_w])
              try rfl
            refine hK.out _ _ ⟨ge, v1, m18_, m20_, (by rw [ha.out]; exact putSel_upk 7 hb_ rfl rfl rfl), Q_HB, Q_NB, Q_RV, fun h0_ _ => absurd ((hoff 18 (by kernel_rfl)).symm.trans h0_) (by decide), fun h0_ => absurd ((hoff 19 (by kernel_rfl)).symm.trans h0_) (by decide), fun h0_ => absurd ((hoff 18 (by kernel_rfl)).symm.trans h0_) (by decide), fun h0_ => absurd ((hoff 20 (by kernel_rfl)).symm.trans h0_) (by decide)⟩
          refine steps_cons ?_ ?_
          · rintro b a w' ⟨ge, v1, m18_, m20_, ha, Q_HB, Q_NB, Q_RV, Q_EB, Q_R1, Q_X18_, Q_X20_⟩ hb_ hon hoff
            refine ⟨_, rfl, fun K hK => ?_⟩
            have e50 : a.tmps[50]? = some (.int .i64 Px) := by rw [ha]; exact putSel_on (e := (5, 50, .int .i64 Px)) 5 rfl rfl (hon 5 (by kernel_rfl)) rfl
            have e52 : a.tmps[52]? = some (.int .i64 Qx) := by rw [ha]; exact putSel_on (e := (7, 52, .int .i64 Qx)) 7 rfl rfl (hon 7 (by kernel_rfl)) rfl
            replace ha := Aside0.mk ha
            have HB := Aside0.mk Q_HB
            have NB := Aside0.mk (Q_NB (hoff 19 (by kernel_rfl)))
            have RV := Aside0.mk (Q_RV (hoff 19 (by kernel_rfl)))
            have y2 := YX.out
            refine value_ (w1 := w') (v := .int .i64 sx) (by rfl) rfl ?_ ?_
            · go_simp
              (try simp only [i64_w])
              try rfl
            refine hK.out _ _ ⟨ge, v1, m18_, m20_, (by rw [ha.out]; exact putSel_upk 8 hb_ rfl rfl rfl), Q_HB, Q_NB, Q_RV, fun h0_ _ => absurd ((hoff 18 (by kernel_rfl)).symm.trans h0_) (by decide), fun h0_ => absurd ((hoff 19 (by kernel_rfl)).symm.trans h0_) (by decide), fun h0_ => absurd ((hoff 18 (by kernel_rfl)).symm.trans h0_) (by decide), fun h0_ => absurd ((hoff 20 (by kernel_rfl)).symm.trans h0_) (by decide)⟩
          refine steps_cons ?_ ?_
          · rintro b a w' ⟨ge, v1, m18_, m20_, ha, Q_HB, Q_NB, Q_RV, Q_EB, Q_R1, Q_X18_, Q_X20_⟩ hb_ hon hoff
            refine ⟨_, rfl, fun K hK => ?_⟩
            have e0 : a.tmps[0]? = some (.slice (some ad) l.length c) := by rw [ha]; exact (putSel_off rfl).trans rfl
            replace ha := Aside0.mk ha
            have HB := Aside0.mk Q_HB
            have NB := Aside0.mk (Q_NB (hoff 19 (by kernel_rfl)))
            have RV := Aside0.mk (Q_RV (hoff 19 (by kernel_rfl)))
            refine value_ (w1 := w') (v := .slice (some ad) l.length c) (by rfl) rfl ?_ ?_
            · go_simp
              (try simp only [i64_w])
              try rfl
            refine hK.out _ _ ⟨ge, v1, m18_, m20_, (by rw [ha.out]; exact putSel_upk 9 hb_ rfl rfl rfl), Q_HB, Q_NB, Q_RV, fun h0_ _ => absurd ((hoff 18 (by kernel_rfl)).symm.trans h0_) (by decide), fun h0_ => absurd ((hoff 19 (by kernel_rfl)).symm.trans h0_) (by decide), fun h0_ => absurd ((hoff 18 (by kernel_rfl)).symm.trans h0_) (by decide), fun h0_ => absurd ((hoff 20 (by kernel_rfl)).symm.trans h0_) (by decide)⟩
          refine steps_cons ?_ ?_
          · rintro b a w' ⟨ge, v1, m18_, m20_, ha, Q_HB, Q_NB, Q_RV, Q_EB, Q_R1, Q_X18_, Q_X20_⟩ hb_ hon hoff
            refine ⟨_, rfl, fun K hK => ?_⟩
            have e5 : a.tmps[5]? = some (.int .i64 k) := by rw [ha]; exact (putSel_off rfl).trans rfl
            replace ha := Aside0.mk ha
            have HB := Aside0.mk Q_HB
            have NB := Aside0.mk (Q_NB (hoff 19 (by kernel_rfl)))
            have RV := Aside0.mk (Q_RV (hoff 19 (by kernel_rfl)))
            refine value_ (w1 := w') (v := .int .i64 k) (by rfl) rfl ?_ ?_
            · go_simp
              (try simp only [i64_w])
              try rfl
            refine hK.out _ _ ⟨ge, v1, m18_, m20_, (by rw [ha.out]; exact putSel_upk 10 hb_ rfl rfl rfl), Q_HB, Q_NB, Q_RV, fun h0_ _ => absurd ((hoff 18 (by kernel_rfl)).symm.trans h0_) (by decide), fun h0_ => absurd ((hoff 19 (by kernel_rfl)).symm.trans h0_) (by decide), fun h0_ => absurd ((hoff 18 (by kernel_rfl)).symm.trans h0_) (by decide), fun h0_ => absurd ((hoff 20 (by kernel_rfl)).symm.trans h0_) (by decide)⟩
          refine steps_cons ?_ ?_
          · rintro b a w' ⟨ge, v1, m18_, m20_, ha, Q_HB, Q_NB, Q_RV, Q_EB, Q_R1, Q_X18_, Q_X20_⟩ hb_ hon hoff
            refine ⟨_, rfl, fun K hK => ?_⟩
            have e54 : a.tmps[54]? = some (.slice (some ad) l.length c) := by rw [ha]; exact putSel_on (e := (9, 54, .slice (some ad) l.length c)) 9 rfl rfl (hon 9 (by kernel_rfl)) rfl
            have e55 : a.tmps[55]? = some (.int .i64 k) := by rw [ha]; exact putSel_on (e := (10, 55, .int .i64 k)) 10 rfl rfl (hon 10 (by kernel_rfl)) rfl
            replace ha := Aside0.mk ha
            have HB := Aside0.mk Q_HB
            have NB := Aside0.mk (Q_NB (hoff 19 (by kernel_rfl)))
            have RV := Aside0.mk (Q_RV (hoff 19 (by kernel_rfl)))
            have y0 := Y0.out
            have y1 := Y1.out
            refine value_ (w1 := w') (v := .pointer (some (ad.add (k * 3)))) (by rfl) rfl ?_ ?_
            · go_simp
              (try simp only [i64_w])
              try rfl
            refine hK.out _ _ ⟨ge, v1, m18_, m20_, (by rw [ha.out]; exact putSel_upk 11 hb_ rfl rfl rfl), Q_HB, Q_NB, Q_RV, fun h0_ _ => absurd ((hoff 18 (by kernel_rfl)).symm.trans h0_) (by decide), fun h0_ => absurd ((hoff 19 (by kernel_rfl)).symm.trans h0_) (by decide), fun h0_ => absurd ((hoff 18 (by kernel_rfl)).symm.trans h0_) (by decide), fun h0_ => absurd ((hoff 20 (by kernel_rfl)).symm.trans h0_) (by decide)⟩
          refine steps_cons ?_ ?_
          · rintro b a w' ⟨ge, v1, m18_, m20_, ha, Q_HB, Q_NB, Q_RV, Q_EB, Q_R1, Q_X18_, Q_X20_⟩ hb_ hon hoff
            refine ⟨_, rfl, fun K hK => ?_⟩
            have e56 : a.tmps[56]? = some (.pointer (some (ad.add (k * 3)))) := by rw [ha]; exact putSel_on (e := (11, 56, .pointer (some (ad.add (k * 3))))) 11 rfl rfl (hon 11 (by kernel_rfl)) rfl
            replace ha := Aside0.mk ha
            have HB := Aside0.mk Q_HB
            have NB := Aside0.mk (Q_NB (hoff 19 (by kernel_rfl)))
            have RV := Aside0.mk (Q_RV (hoff 19 (by kernel_rfl)))
            refine value_ (w1 := w') (v := .pointer (some ⟨(ad.add (k * 3)).block, (ad.add (k * 3)).off + 1, none⟩)) (by rfl) rfl ?_ ?_
            · go_simp
              (try simp only [i64_w])
              try rfl
            refine hK.out _ _ ⟨ge, v1, m18_, m20_, (by rw [ha.out]; exact putSel_upk 12 hb_ rfl rfl rfl), Q_HB, Q_NB, Q_RV, fun h0_ _ => absurd ((hoff 18 (by kernel_rfl)).symm.trans h0_) (by decide), fun h0_ => absurd ((hoff 19 (by kernel_rfl)).symm.trans h0_) (by decide), fun h0_ => absurd ((hoff 18 (by kernel_rfl)).symm.trans h0_) (by decide), fun h0_ => absurd ((hoff 20 (by kernel_rfl)).symm.trans h0_) (by decide)⟩
          refine steps_cons ?_ ?_
          · rintro b a w' ⟨ge, v1, m18_, m20_, ha, Q_HB, Q_NB, Q_RV, Q_EB, Q_R1, Q_X18_, Q_X20_⟩ hb_ hon hoff
            refine ⟨_, rfl, fun K hK => ?_⟩
            have e57 : a.tmps[57]? = some (.pointer (some ⟨(ad.add (k * 3)).block, (ad.add (k * 3)).off + 1, none⟩)) := by rw [ha]; exact putSel_on (e := (12, 57, .pointer (some ⟨(ad.add (k * 3)).block, (ad.add (k * 3)).off + 1, none⟩))) 12 rfl rfl (hon 12 (by kernel_rfl)) rfl
            replace ha := Aside0.mk ha
            have HB := Aside0.mk Q_HB
            have NB := Aside0.mk (Q_NB (hoff 19 (by kernel_rfl)))
            have RV := Aside0.mk (Q_RV (hoff 19 (by kernel_rfl)))
            have z5 : w'.cell? ⟨(ad.add (k * 3)).block, (ad.add (k * 3)).off + 1, none⟩ = some (.int .i64 Py) := pw_cell_below HB.out P1.out
            refine value_ (w1 := w') (v := .int .i64 Py) (by rfl) rfl ?_ ?_
            · go_simp
              (try simp only [i64_w])
              try rfl
            refine hK.out _ _ ⟨ge, v1, m18_, m20_, (by rw [ha.out]; exact putSel_upk 13 hb_ rfl rfl rfl), Q_HB, Q_NB, Q_RV, fun h0_ _ => absurd ((hoff 18 (by kernel_rfl)).symm.trans h0_) (by decide), fun h0_ => absurd ((hoff 19 (by kernel_rfl)).symm.trans h0_) (by decide), fun h0_ => absurd ((hoff 18 (by kernel_rfl)).symm.trans h0_) (by decide), fun h0_ => absurd ((hoff 20 (by kernel_rfl)).symm.trans h0_) (by decide)⟩
          refine steps_cons ?_ ?_
          · rintro b a w' ⟨ge, v1, m18_, m20_, ha, Q_HB, Q_NB, Q_RV, Q_EB, Q_R1, Q_X18_, Q_X20_⟩ hb_ hon hoff
            refine ⟨_, rfl, fun K hK => ?_⟩
            have e6 : a.tmps[6]? = some (.pointer (some ⟨g, 0, none⟩)) := by rw [ha]; exact (putSel_off rfl).trans rfl
            replace ha := Aside0.mk ha
            have HB := Aside0.mk Q_HB
            have NB := Aside0.mk (Q_NB (hoff 19 (by kernel_rfl)))
            have RV := Aside0.mk (Q_RV (hoff 19 (by kernel_rfl)))
            refine value_ (w1 := w') (v := .pointer (some ⟨g, 1, none⟩)) (by rfl) rfl ?_ ?_
            · go_simp
              (try simp only [i64_w])
              try rfl
            refine hK.out _ _ ⟨ge, v1, m18_, m20_, (by rw [ha.out]; exact putSel_upk 14 hb_ rfl rfl rfl), Q_HB, Q_NB, Q_RV, fun h0_ _ => absurd ((hoff 18 (by kernel_rfl)).symm.trans h0_) (by decide), fun h0_ => absurd ((hoff 19 (by kernel_rfl)).symm.trans h0_) (by decide), fun h0_ => absurd ((hoff 18 (by kernel_rfl)).symm.trans h0_) (by decide), fun h0_ => absurd ((hoff 20 (by kernel_rfl)).symm.trans h0_) (by decide)⟩
          refine steps_cons ?_ ?_
          · rintro b a w' ⟨ge, v1, m18_, m20_, ha, Q_HB, Q_NB, Q_RV, Q_EB, Q_R1, Q_X18_, Q_X20_⟩ hb_ hon hoff
            refine ⟨_, rfl, fun K hK => ?_⟩
            have e59 : a.tmps[59]? = some (.pointer (some ⟨g, 1, none⟩)) := by rw [ha]; exact putSel_on (e := (14, 59, .pointer (some ⟨g, 1, none⟩))) 14 rfl rfl (hon 14 (by kernel_rfl)) rfl
            replace ha := Aside0.mk ha
            have HB := Aside0.mk Q_HB
            have NB := Aside0.mk (Q_NB (hoff 19 (by kernel_rfl)))
            have RV := Aside0.mk (Q_RV (hoff 19 (by kernel_rfl)))
            have z7 : w'.cell? ⟨g, 1, none⟩ = some (.int .i64 Qy) := NB.out.cell 1
            refine value_ (w1 := w') (v := .int .i64 Qy) (by rfl) rfl ?_ ?_
            · go_simp
              (try simp only [i64_w])
              try rfl
            refine hK.out _ _ ⟨ge, v1, m18_, m20_, (by rw [ha.out]; exact putSel_upk 15 hb_ rfl rfl rfl), Q_HB, Q_NB, Q_RV, fun h0_ _ => absurd ((hoff 18 (by kernel_rfl)).symm.trans h0_) (by decide), fun h0_ => absurd ((hoff 19 (by kernel_rfl)).symm.trans h0_) (by decide), fun h0_ => absurd ((hoff 18 (by kernel_rfl)).symm.trans h0_) (by decide), fun h0_ => absurd ((hoff 20 (by kernel_rfl)).symm.trans h0_) (by decide)⟩
          refine steps_cons ?_ ?_
          · rintro b a w' ⟨ge, v1, m18_, m20_, ha, Q_HB, Q_NB, Q_RV, Q_EB, Q_R1, Q_X18_, Q_X20_⟩ hb_ hon hoff
            refine ⟨_, rfl, fun K hK => ?_⟩
            have e58 : a.tmps[58]? = some (.int .i64 Py) := by rw [ha]; exact putSel_on (e := (13, 58, .int .i64 Py)) 13 rfl rfl (hon 13 (by kernel_rfl)) rfl
            have e60 : a.tmps[60]? = some (.int .i64 Qy) := by rw [ha]; exact putSel_on (e := (15, 60, .int .i64 Qy)) 15 rfl rfl (hon 15 (by kernel_rfl)) rfl
            replace ha := Aside0.mk ha
            have HB := Aside0.mk Q_HB
            have NB := Aside0.mk (Q_NB (hoff 19 (by kernel_rfl)))
            have RV := Aside0.mk (Q_RV (hoff 19 (by kernel_rfl)))
            have y3 := YY.out
            refine value_ (w1 := w') (v := .int .i64 sy) (by rfl) rfl ?_ ?_
            · go_simp
              (try simp only [i64_w])
              try rfl
            refine hK.out _ _ ⟨ge, v1, m18_, m20_, (by rw [ha.out]; exact putSel_upk 16 hb_ rfl rfl rfl), Q_HB, Q_NB, Q_RV, fun h0_ _ => absurd ((hoff 18 (by kernel_rfl)).symm.trans h0_) (by decide), fun h0_ => absurd ((hoff 19 (by kernel_rfl)).symm.trans h0_) (by decide), fun h0_ => absurd ((hoff 18 (by kernel_rfl)).symm.trans h0_) (by decide), fun h0_ => absurd ((hoff 20 (by kernel_rfl)).symm.trans h0_) (by decide)⟩
          refine steps_cons ?_ ?_
          · rintro b a w' ⟨ge, v1, m18_, m20_, ha, Q_HB, Q_NB, Q_RV, Q_EB, Q_R1, Q_X18_, Q_X20_⟩ hb_ hon hoff
            refine ⟨_, rfl, fun K hK => ?_⟩
            have e53 : a.tmps[53]? = some (.int .i64 sx) := by rw [ha]; exact putSel_on (e := (8, 53, .int .i64 sx)) 8 rfl rfl (hon 8 (by kernel_rfl)) rfl
            have e61 : a.tmps[61]? = some (.int .i64 sy) := by rw [ha]; exact putSel_on (e := (16, 61, .int .i64 sy)) 16 rfl rfl (hon 16 (by kernel_rfl)) rfl
            replace ha := Aside0.mk ha
            have HB := Aside0.mk Q_HB
            have NB := Aside0.mk (Q_NB (hoff 19 (by kernel_rfl)))
            have RV := Aside0.mk (Q_RV (hoff 19 (by kernel_rfl)))
            refine value_ (w1 := w') (v := .agg #[.int .i64 sx, .int .i64 sy, .bool true]) (by rfl) rfl ?_ ?_
            · go_simp
              (try simp only [i64_w])
              try rfl
            refine hK.out _ _ ⟨ge, v1, m18_, m20_, (by rw [ha.out]; exact putSel_upk 17 hb_ rfl rfl rfl), Q_HB, Q_NB, Q_RV, fun h0_ _ => absurd ((hoff 18 (by kernel_rfl)).symm.trans h0_) (by decide), fun h0_ => absurd ((hoff 19 (by kernel_rfl)).symm.trans h0_) (by decide), fun h0_ => absurd ((hoff 18 (by kernel_rfl)).symm.trans h0_) (by decide), fun h0_ => absurd ((hoff 20 (by kernel_rfl)).symm.trans h0_) (by decide)⟩
          refine steps_cons ?_ ?_
          · rintro b a w' ⟨ge, v1, m18_, m20_, ha, Q_HB, Q_NB, Q_RV, Q_EB, Q_R1, Q_X18_, Q_X20_⟩ hb_ hon hoff
            refine ⟨_, rfl, fun K hK => ?_⟩
            have e62 : a.tmps[62]? = some (.agg #[.int .i64 sx, .int .i64 sy, .bool true]) := by rw [ha]; exact putSel_on (e := (17, 62, .agg #[.int .i64 sx, .int .i64 sy, .bool true])) 17 rfl rfl (hon 17 (by kernel_rfl)) rfl
            replace ha := Aside0.mk ha
            have HB := Aside0.mk Q_HB
            have NB := Aside0.mk (Q_NB (hoff 19 (by kernel_rfl)))
            have RV := Aside0.mk (Q_RV (hoff 19 (by kernel_rfl)))
            refine value_ (w1 := w'.alloc (.cells #[.int .i64 sx, .int .i64 sy, .bool true] 30)) (v := .slice (some ⟨w'.heap.size, 0, none⟩) 1 1) (by rfl) rfl ?_ ?_
            · go_simp
            refine hK.out _ _ ⟨w'.heap.size, v1, (.slice (some ⟨w'.heap.size, 0, none⟩) 1 1), m20_, (by rw [ha.out]; exact putSel_upk 18 hb_ rfl rfl rfl), bthen' HB.out (below_alloc (Below.refl _ w') _), fun _ => NB.out.alloc _, fun _ => Kd.R_below RV.out (below_alloc (Below.refl _ w') _), fun _ _ => Blk.new w' _ _ rfl, fun h0_ => absurd ((hoff 19 (by kernel_rfl)).symm.trans h0_) (by decide), fun _ => rfl, fun h0_ => absurd ((hoff 20 (by kernel_rfl)).symm.trans h0_) (by decide)⟩
          refine steps_cons ?_ ?_
          · rintro b a w' ⟨ge, v1, m18_, m20_, ha, Q_HB, Q_NB, Q_RV, Q_EB, Q_R1, Q_X18_, Q_X20_⟩ hb_ hon hoff
            refine ⟨_, rfl, fun K hK => ?_⟩
            have e45 : a.tmps[45]? = some (v3) := by rw [ha]; exact putSel_on (e := (0, 45, v3)) 0 rfl rfl (hon 0 (by kernel_rfl)) rfl
            have e63 : a.tmps[63]? = some (m18_) := by rw [ha]; exact putSel_on (e := (18, 63, m18_)) 18 rfl rfl (hon 18 (by kernel_rfl)) rfl
            rw [Q_X18_ (hon 18 (by kernel_rfl))] at e63
            replace ha := Aside0.mk ha
            have HB := Aside0.mk Q_HB
            have NB := Aside0.mk (Q_NB hb_)
            have RV := Aside0.mk (Q_RV hb_)
            have EB := Aside0.mk (Q_EB (hon 18 (by kernel_rfl)) hb_)
            obtain ⟨vv, w2, hr, o1, o2, o3⟩ := append_kd (d := k30) 28 30 _ 24 Tryd.underlying28 info30 rfl (by decide) (by omega) RV.out HB.out HB.out.size ge (mdR ⟨Px, Py, false⟩ ⟨Qx, Qy, false⟩) [.int .i64 sx, .int .i64 sy, .bool true] EB.out (by rw [← SX.out, ← SY.out]; exact k30_mkM _ _ _ (mdR ⟨Px, Py, false⟩ ⟨Qx, Qy, false⟩)) (by have := HL.out; (try simp only [List.length_append, List.length_singleton]); omega)
            refine value_ (w1 := w2) (v := vv) (by rfl) rfl ?_ ?_
            · exact run_append_opU (by rfl) (by assumption) (by assumption) hr
            refine hK.out _ _ ⟨ge, vv, m18_, m20_, (by rw [ha.out]; exact putSel_upk 19 hb_ rfl rfl rfl), o2, fun h0_ => absurd ((up_self b 19).symm.trans h0_) (by decide), fun h0_ => absurd ((up_self b 19).symm.trans h0_) (by decide), fun _ h1_ => absurd ((up_self b 19).symm.trans h1_) (by decide), fun _ => o1, Q_X18_, fun h0_ => absurd ((hoff 20 (by kernel_rfl)).symm.trans h0_) (by decide)⟩
          refine steps_cons ?_ ?_
          · rintro b a w' ⟨ge, v1, m18_, m20_, ha, Q_HB, Q_NB, Q_RV, Q_EB, Q_R1, Q_X18_, Q_X20_⟩ hb_ hon hoff
            refine ⟨_, rfl, fun K hK => ?_⟩
            have e64 : a.tmps[64]? = some (v1) := by rw [ha]; exact putSel_on (e := (19, 64, v1)) 19 rfl rfl (hon 19 (by kernel_rfl)) rfl
            replace ha := Aside0.mk ha
            have HB := Aside0.mk Q_HB
            have R1 := Aside0.mk (Q_R1 (hon 19 (by kernel_rfl)))
            refine value_ (w1 := w') (v := v1) (by rfl) rfl ?_ ?_
            · go_simp
              (try simp only [i64_w])
              try rfl
            refine hK.out _ _ ⟨ge, v1, m18_, (v1), (by rw [ha.out]; exact putSel_upk 20 hb_ rfl rfl rfl), Q_HB, fun h0_ => absurd ((hon 19 (by kernel_rfl)).symm.trans h0_) (by decide), fun h0_ => absurd ((hon 19 (by kernel_rfl)).symm.trans h0_) (by decide), fun _ h1_ => absurd ((hon 19 (by kernel_rfl)).symm.trans h1_) (by decide), Q_R1, Q_X18_, fun _ => rfl⟩
          exact steps_nil
        · rintro b a w' hall ⟨ge, v1, m18_, m20_, ha, Q_HB, Q_NB, Q_RV, Q_EB, Q_R1, Q_X18_, Q_X20_⟩
          clear HB NB RV
          have hb0_ := hall 0 (by kernel_rfl)
          have hb1_ := hall 1 (by kernel_rfl)
          have hb2_ := hall 2 (by kernel_rfl)
          have hb3_ := hall 3 (by kernel_rfl)
          have hb4_ := hall 4 (by kernel_rfl)
          have hb5_ := hall 5 (by kernel_rfl)
          have hb6_ := hall 6 (by kernel_rfl)
          have hb7_ := hall 7 (by kernel_rfl)
          have hb8_ := hall 8 (by kernel_rfl)
          have hb9_ := hall 9 (by kernel_rfl)
          have hb10_ := hall 10 (by kernel_rfl)
          have hb11_ := hall 11 (by kernel_rfl)
          have hb12_ := hall 12 (by kernel_rfl)
          have hb13_ := hall 13 (by kernel_rfl)
          have hb14_ := hall 14 (by kernel_rfl)
          have hb15_ := hall 15 (by kernel_rfl)
          have hb16_ := hall 16 (by kernel_rfl)
          have hb17_ := hall 17 (by kernel_rfl)
          have hb18_ := hall 18 (by kernel_rfl)
          have hb19_ := hall 19 (by kernel_rfl)
          have hb20_ := hall 20 (by kernel_rfl)
          subst ha
          obtain rfl := Q_X18_ hb18_
          obtain rfl := Q_X20_ hb20_
          simp only [putSel, hb0_, hb1_, hb2_, hb3_, hb4_, hb5_, hb6_, hb7_, hb8_, hb9_, hb10_, hb11_, hb12_, hb13_, hb14_, hb15_, hb16_, hb17_, hb18_, hb19_, hb20_, if_true, Act.put, List.setIfInBounds_toArray, List.set_cons_zero, List.set_cons_succ]
          have HB := Aside0.mk Q_HB
          clear Q_HB
          clear Q_NB
          clear Q_RV
          clear Q_EB
          have R1 := Aside0.mk (Q_R1 hb19_)
          clear Q_R1
          clear hall hb0_ hb1_ hb2_ hb3_ hb4_ hb5_ hb6_ hb7_ hb8_ hb9_ hb10_ hb11_ hb12_ hb13_ hb14_ hb15_ hb16_ hb17_ hb18_ hb19_ hb20_
          have HB5 := Lib.hid HB.out
          have HR5 := Lib.hid R1.out
          have hlt := HNP.out.2
          go_wp2_with fail
          exact ⟨⟨k + 1, by go_num, by omega, HB5, by rw [show ptsR l (k + 1) = _ from HS'.out]; rw [show ps ++ [twR ⟨Px, Py, false⟩, mdR ⟨Px, Py, false⟩ ⟨Qx, Qy, false⟩] = ps ++ [twR ⟨Px, Py, false⟩] ++ [mdR ⟨Px, Py, false⟩ ⟨Qx, Qy, false⟩] by simp]; exact HR5⟩, by simp [intOf]; omega⟩
      all_goals
        simp only [blkR, Bool.false_eq_true, Bool.true_eq_false, reduceCtorEq, false_and, and_false, if_false] at HS
        exact ⟨⟨k + 1, by go_num, by omega, HB3, by rw [show ptsR l (k + 1) = _ from HS.out]; exact HR3⟩, by simp [intOf]; omega⟩
    · have hkl : k = l.length := by omega
      subst hkl
      have hL := ptsR_len l l.length
      obtain ⟨L, hLL⟩ : ∃ L, ptsR l l.length = L := ⟨_, rfl⟩
      have HP : Hid (pcsR l = outR L L.length) := Lib.hid (by unfold pcsR; rw [hLL])
      rw [hLL] at HV hL
      obtain ⟨Av, cv, rfl⟩ := Kd.R_slice HV.out
      have HD := Lib.hid (Kd.R_reads' HV.out).2.2
      clear hLL HC HN HV hk hlt
      generalize wr = wo at *
      go_wp2_with fail
      go_loopw [7, 9] (fun v i wr' => ∃ k : Nat, i = .int .i64 k ∧ k ≤ L.length ∧ Hid (Below wo.heap.size wo wr') ∧ Hid (Kd.R k89 89 wr' wo.heap.size (fun _ => True) v (outR L k))) (fun _ i _ => L.length - (intOf i).toNat)
      case atStart => exact ⟨0, rfl, Nat.zero_le _, Lib.hid (Below.refl _ _), Lib.hid (Kd.R_nil _ _ _ _ _)⟩
      case round =>
        obtain ⟨k, rfl, hk, HBx, HVx⟩ := hrel
        obtain ⟨Ax, cx, rfl⟩ := Kd.R_slice HVx.out
        by_cases hlt : k < L.length
        · have d1 : decide (k < L.length) = true := decide_eq_true hlt
          have hp : 0 < L.length := by omega
          obtain ⟨ad, rfl, p0, p1, p2⟩ := pt_cells HD.out k hlt
          obtain ⟨ad', had, q0, q1, q2⟩ := pt_cells HD.out ((k + 1) % L.length) (Nat.mod_lt _ hp)
          cases had
          obtain ⟨ad', had, r0, r1, r2⟩ := pt_cells HD.out ((k + 2) % L.length) (Nat.mod_lt _ hp)
          cases had
          rw [show L.getD k z30 = ptAt L k from (ptAt_lt L hlt).symm] at p0 p1 p2
          rw [show L.getD ((k + 1) % L.length) z30 = ptAt L (k + 1) from rfl] at q0 q1 q2
          rw [show L.getD ((k + 2) % L.length) z30 = ptAt L (k + 2) from rfl] at r0 r1 r2
          have hz : ((L.length : Int) == 0) = false := beq_eq_false_iff_ne.2 (by omega)
          have hm1 : ((k : Int) + 1).tmod (L.length : Int) = (((k + 1) % L.length : Nat) : Int) := tmod_nat
          have hm2 : ((k : Int) + 2).tmod (L.length : Int) = (((k + 2) % L.length : Nat) : Int) := tmod_nat
          have hr1 : (k + 1) % L.length < L.length := Nat.mod_lt _ hp
          have hr2 : (k + 2) % L.length < L.length := Nat.mod_lt _ hp
          have HS : Hid (outR L (k + 1) = outR L k ++ itR (ptAt L k) (ptAt L (k + 1)) (ptAt L (k + 2))) := Lib.hid rfl
          have hol := outR_len L k
          generalize ptAt L k = P at *
          generalize ptAt L (k + 1) = Q at *
          generalize ptAt L (k + 2) = R at *
          generalize outR L k = os at *
          generalize (k + 1) % L.length = i1 at *
          generalize (k + 2) % L.length = i2 at *
          obtain ⟨Px, Py, Pf⟩ := P
          obtain ⟨Qx, Qy, Qf⟩ := Q
          obtain ⟨Rx, Ry, Rf⟩ := R
          dsimp only at p0 p1 p2 q0 q1 q2 r0 r1 r2
          have b0 : (0 : Int) ≤ (i1 : Int) := by omega
          have b1 : (i1 : Int) < (L.length : Int) := by omega
          have b2 : (0 : Int) ≤ (k : Int) := by omega
          have b3 : (k : Int) < (L.length : Int) := by omega
          have b4 : (0 : Int) ≤ (i2 : Int) := by omega
          have b5 : (i2 : Int) < (L.length : Int) := by omega
          have Q0 := Lib.hid q0
          have Q1 := Lib.hid q1
          have Q2 := Lib.hid q2
          have R0 := Lib.hid r0
          have R1 := Lib.hid r1
          have R2 := Lib.hid r2
          replace p0 := pw_cell_below HBx.out p0
          replace p1 := pw_cell_below HBx.out p1
          replace p2 := pw_cell_below HBx.out p2
          clear q0 q1 q2 r0 r1 r2
          go_upto_region 16 with fail
          obtain ⟨w1, g1, hw, hg, B1, HB1, _⟩ := new_box wr #[.int .i64 Px, .int .i64 Py, .bool Pf] 30
          rw [hw, hg]
          have HBa := Lib.hid (bthen' HBx.out HB1.out)
          have HVa := Lib.hid (Kd.R_below HVx.out HB1.out)
          have q0 := pw_cell_below HBa.out Q0.out
          have q1 := pw_cell_below HBa.out Q1.out
          have q2 := pw_cell_below HBa.out Q2.out
          clear p0 p1 p2 hw hg HBx HVx HB1
          go_upto_region 17 with fail
          obtain ⟨w2, g2, hw, hg, B2, HB2, _⟩ := new_box w1 #[.int .i64 Qx, .int .i64 Qy, .bool Qf] 30
          rw [hw, hg]
          have B1b := Lib.hid (B1.out.below HB2.out)
          have HBb := Lib.hid (bthen' HBa.out HB2.out)
          have HVb := Lib.hid (Kd.R_below HVa.out HB2.out)
          have e0 := B1b.out.cell 0
          have e1 := B1b.out.cell 1
          have e2 := B1b.out.cell 2
          have f0 := B2.out.cell 0
          have f1 := B2.out.cell 1
          have f2 := B2.out.cell 2
          simp only [List.getElem?_toArray, List.getElem?_cons_zero, List.getElem?_cons_succ] at e0 e1 e2 f0 f1 f2
          have r0 := pw_cell_below HBb.out R0.out
          have r1 := pw_cell_below HBb.out R1.out
          have r2 := pw_cell_below HBb.out R2.out
          clear q0 q1 q2 hw hg HBa HVa HB2 B1
          cases Pf
          · clear r0 r1 r2 f0 f1 f2 B2 B1b
            go_wp2_with fail
            exact ⟨⟨k + 1, by go_num, by omega, HBb, by rw [show outR L (k + 1) = _ from HS.out]; simp only [itR, Bool.false_eq_true, if_false, List.append_nil]; exact HVb⟩, by simp [intOf]; omega⟩
          · cases Qf
            · go_upto_region 20 with fail
              have YK := Aside0.mk (show IntKind.i64.wrap ((k : Int) + 2) = (k : Int) + 2 from IntWalk.i64_in _ (by omega))
              have YZ := Aside0.mk (show ¬ L = [] from fun e => by rw [e] at hlt; simp at hlt)
              have YM := Aside0.mk hm2
              have Y4 := Aside0.mk b4
              have Y5 := Aside0.mk b5
              have HL := Aside0.mk (show os.length ≤ 4000 by omega)
              have HKL := Lib.hid hlt
              clear e0 e1 e2 f0 f1 f2 r0 r1 r2 hz hm1 hm2 hr1 hr2 b0 b1 b2 b3 b4 b5 d1 hp hol
              refine start_ (n := 14) (S := fun w' => True) (ds := []) #[false, false, false, false, false, false, false, false, false, false, false, false, false, false] (by kernel_rfl) rfl rfl trivial (fun hHeld => ?_)
              refine with_tabW rfPcs.tab20 rfPcs.bits20 (fun HT_ HW_ => ?_)
              have HB : Aside0 (Below wo.heap.size wo w2.drew) := ⟨bdrew HBb.out⟩
              have N1 : Aside0 (Blk w2.drew g1 #[.int .i64 Px, .int .i64 Py, .bool true] 30) := ⟨B1b.out.drew⟩
              have N2 : Aside0 (Blk w2.drew g2 #[.int .i64 Qx, .int .i64 Qy, .bool false] 30) := ⟨B2.out.drew⟩
              have RV : Aside0 (Kd.R k89 89 w2.drew wo.heap.size (fun _ => True) (.slice Ax os.length cx) os) := ⟨Kd.R_below HVb.out (below_drew (Below.refl _ _))⟩
              generalize hwd : w2.drew = w1' at *
              clear hwd
              refine inv_at [0, 1, 2, 3, 4, 5, 6, 7, 8, 9, 10, 11, 12, 13] (fun a0_ b a w' => ∃ (ge : Nat) (v1 : Value) (m11_ : Value) (m13_ : Value), a = putSel a0_ b [(0, 94, .slice Ax os.length cx), (1, 95, .agg #[.int .i64 Px, .int .i64 Py, .bool true]), (2, 96, .agg #[.int .i64 Qx, .int .i64 Qy, .bool false]), (3, 97, .slice (some ad) L.length cv), (4, 98, .int .i64 k), (5, 99, .int .i64 (k + 2)), (6, 100, .int .i64 L.length), (7, 101, .int .i64 i2), (8, 102, .pointer (some (ad.add (i2 * 3)))), (9, 103, .agg #[.int .i64 Rx, .int .i64 Ry, .bool Rf]), (10, 104, .agg #[.int .i64 Px, .int .i64 Py, .bool true, .int .i64 Qx, .int .i64 Qy, .bool false, .int .i64 Rx, .int .i64 Ry, .bool Rf, .bool true]), (11, 105, m11_), (12, 106, v1), (13, 7, m13_)] ∧ (Below wo.heap.size wo w') ∧ (b 12 = false → Blk w' g1 #[.int .i64 Px, .int .i64 Py, .bool true] 30) ∧ (b 12 = false → Blk w' g2 #[.int .i64 Qx, .int .i64 Qy, .bool false] 30) ∧ (b 12 = false → Kd.R k89 89 w' wo.heap.size (fun _ => True) (.slice Ax os.length cx) os) ∧ (b 11 = true → b 12 = false → Blk w' ge #[.int .i64 Px, .int .i64 Py, .bool true, .int .i64 Qx, .int .i64 Qy, .bool false, .int .i64 Rx, .int .i64 Ry, .bool Rf, .bool true] 89) ∧ (b 12 = true → Kd.R k89 89 w' wo.heap.size (fun _ => True) v1 (os ++ [⟨⟨Px, Py, true⟩, ⟨Qx, Qy, false⟩, ⟨Rx, Ry, Rf⟩, true⟩])) ∧ (b 11 = true → (m11_ : Value) = .slice (some ⟨ge, 0, none⟩) 1 1) ∧ (b 13 = true → (m13_ : Value) = v1)) HT_.out HW_.out (by kernel_rfl) (by kernel_rfl) ?_ ?_ ?_
              · exact ⟨0, undef, .bool false, .bool false, by simp only [putSel, Bool.false_eq_true, if_false], HB.out, fun _ => N1.out, fun _ => N2.out, fun _ => RV.out, fun h_ => absurd h_ (by decide), fun h_ => absurd h_ (by decide), fun h_ => absurd h_ (by decide), fun h_ => absurd h_ (by decide)⟩
              · skip
                clear HB N1 N2 RV
                refine steps_cons ?_ ?_
                · rintro b a w' ⟨ge, v1, m11_, m13_, ha, Q_HB, Q_N1, Q_N2, Q_RV, Q_EB, Q_R1, Q_X11_, Q_X13_⟩ hb_ hon hoff
                  refine ⟨_, rfl, fun K hK => ?_⟩
                  have e7 : a.tmps[7]? = some (.slice Ax os.length cx) := by rw [ha]; exact (putSel_not (hoff 13 (by kernel_rfl)) rfl).trans rfl
                  replace ha := Aside0.mk ha
                  have HB := Aside0.mk Q_HB
                  have N1 := Aside0.mk (Q_N1 (hoff 12 (by kernel_rfl)))
                  have N2 := Aside0.mk (Q_N2 (hoff 12 (by kernel_rfl)))
                  have RV := Aside0.mk (Q_RV (hoff 12 (by kernel_rfl)))
                  refine value_ (w1 := w') (v := .slice Ax os.length cx) (by rfl) rfl ?_ ?_
                  · go_simp
                    (try simp only [i64_w])
                    try rfl
                  refine hK.out _ _ ⟨ge, v1, m11_, m13_, (by rw [ha.out]; exact putSel_upk 0 hb_ rfl rfl rfl), Q_HB, Q_N1, Q_N2, Q_RV, Q_EB, fun h0_ => absurd ((hoff 12 (by kernel_rfl)).symm.trans h0_) (by decide), Q_X11_, fun h0_ => absurd ((hoff 13 (by kernel_rfl)).symm.trans h0_) (by decide)⟩
                refine steps_cons ?_ ?_
                · rintro b a w' ⟨ge, v1, m11_, m13_, ha, Q_HB, Q_N1, Q_N2, Q_RV, Q_EB, Q_R1, Q_X11_, Q_X13_⟩ hb_ hon hoff
                  refine ⟨_, rfl, fun K hK => ?_⟩
                  have e10 : a.tmps[10]? = some (.pointer (some ⟨g1, 0, none⟩)) := by rw [ha]; exact (putSel_off rfl).trans rfl
                  replace ha := Aside0.mk ha
                  have HB := Aside0.mk Q_HB
                  have N1 := Aside0.mk (Q_N1 (hoff 12 (by kernel_rfl)))
                  have N2 := Aside0.mk (Q_N2 (hoff 12 (by kernel_rfl)))
                  have RV := Aside0.mk (Q_RV (hoff 12 (by kernel_rfl)))
                  have z10 : w'.cell? ⟨g1, 0, none⟩ = some (.int .i64 Px) := N1.out.cell 0
                  have z11 : w'.cell? ⟨g1, 1, none⟩ = some (.int .i64 Py) := N1.out.cell 1
                  have z12 : w'.cell? ⟨g1, 2, none⟩ = some (.bool true) := N1.out.cell 2
                  refine value_ (w1 := w') (v := .agg #[.int .i64 Px, .int .i64 Py, .bool true]) (by rfl) rfl ?_ ?_
                  · go_simp
                    (try simp only [i64_w])
                    try rfl
                  refine hK.out _ _ ⟨ge, v1, m11_, m13_, (by rw [ha.out]; exact putSel_upk 1 hb_ rfl rfl rfl), Q_HB, Q_N1, Q_N2, Q_RV, fun h0_ _ => absurd ((hoff 11 (by kernel_rfl)).symm.trans h0_) (by decide), fun h0_ => absurd ((hoff 12 (by kernel_rfl)).symm.trans h0_) (by decide), fun h0_ => absurd ((hoff 11 (by kernel_rfl)).symm.trans h0_) (by decide), fun h0_ => absurd ((hoff 13 (by kernel_rfl)).symm.trans h0_) (by decide)⟩
                refine steps_cons ?_ ?_
                · rintro b a w' ⟨ge, v1, m11_, m13_, ha, Q_HB, Q_N1, Q_N2, Q_RV, Q_EB, Q_R1, Q_X11_, Q_X13_⟩ hb_ hon hoff
                  refine ⟨_, rfl, fun K hK => ?_⟩
                  have e11 : a.tmps[11]? = some (.pointer (some ⟨g2, 0, none⟩)) := by rw [ha]; exact (putSel_off rfl).trans rfl
                  replace ha := Aside0.mk ha
                  have HB := Aside0.mk Q_HB
                  have N1 := Aside0.mk (Q_N1 (hoff 12 (by kernel_rfl)))
                  have N2 := Aside0.mk (Q_N2 (hoff 12 (by kernel_rfl)))
                  have RV := Aside0.mk (Q_RV (hoff 12 (by kernel_rfl)))
                  have z10 : w'.cell? ⟨g2, 0, none⟩ = some (.int .i64 Qx) := N2.out.cell 0
                  have z11 : w'.cell? ⟨g2, 1, none⟩ = some (.int .i64 Qy) := N2.out.cell 1
                  have z12 : w'.cell? ⟨g2, 2, none⟩ = some (.bool false) := N2.out.cell 2
                  refine value_ (w1 := w') (v := .agg #[.int .i64 Qx, .int .i64 Qy, .bool false]) (by rfl) rfl ?_ ?_
                  · go_simp
                    (try simp only [i64_w])
                    try rfl
                  refine hK.out _ _ ⟨ge, v1, m11_, m13_, (by rw [ha.out]; exact putSel_upk 2 hb_ rfl rfl rfl), Q_HB, Q_N1, Q_N2, Q_RV, fun h0_ _ => absurd ((hoff 11 (by kernel_rfl)).symm.trans h0_) (by decide), fun h0_ => absurd ((hoff 12 (by kernel_rfl)).symm.trans h0_) (by decide), fun h0_ => absurd ((hoff 11 (by kernel_rfl)).symm.trans h0_) (by decide), fun h0_ => absurd ((hoff 13 (by kernel_rfl)).symm.trans h0_) (by decide)⟩
                refine steps_cons ?_ ?_
                · rintro b a w' ⟨ge, v1, m11_, m13_, ha, Q_HB, Q_N1, Q_N2, Q_RV, Q_EB, Q_R1, Q_X11_, Q_X13_⟩ hb_ hon hoff
                  refine ⟨_, rfl, fun K hK => ?_⟩
                  have e3 : a.tmps[3]? = some (.slice (some ad) L.length cv) := by rw [ha]; exact (putSel_off rfl).trans rfl
                  replace ha := Aside0.mk ha
                  have HB := Aside0.mk Q_HB
                  have N1 := Aside0.mk (Q_N1 (hoff 12 (by kernel_rfl)))
                  have N2 := Aside0.mk (Q_N2 (hoff 12 (by kernel_rfl)))
                  have RV := Aside0.mk (Q_RV (hoff 12 (by kernel_rfl)))
                  refine value_ (w1 := w') (v := .slice (some ad) L.length cv) (by rfl) rfl ?_ ?_
                  · go_simp
                    (try simp only [i64_w])
                    try rfl
                  refine hK.out _ _ ⟨ge, v1, m11_, m13_, (by rw [ha.out]; exact putSel_upk 3 hb_ rfl rfl rfl), Q_HB, Q_N1, Q_N2, Q_RV, fun h0_ _ => absurd ((hoff 11 (by kernel_rfl)).symm.trans h0_) (by decide), fun h0_ => absurd ((hoff 12 (by kernel_rfl)).symm.trans h0_) (by decide), fun h0_ => absurd ((hoff 11 (by kernel_rfl)).symm.trans h0_) (by decide), fun h0_ => absurd ((hoff 13 (by kernel_rfl)).symm.trans h0_) (by decide)⟩
                refine steps_cons ?_ ?_
                · rintro b a w' ⟨ge, v1, m11_, m13_, ha, Q_HB, Q_N1, Q_N2, Q_RV, Q_EB, Q_R1, Q_X11_, Q_X13_⟩ hb_ hon hoff
                  refine ⟨_, rfl, fun K hK => ?_⟩
                  have e9 : a.tmps[9]? = some (.int .i64 k) := by rw [ha]; exact (putSel_off rfl).trans rfl
                  replace ha := Aside0.mk ha
                  have HB := Aside0.mk Q_HB
                  have N1 := Aside0.mk (Q_N1 (hoff 12 (by kernel_rfl)))
                  have N2 := Aside0.mk (Q_N2 (hoff 12 (by kernel_rfl)))
                  have RV := Aside0.mk (Q_RV (hoff 12 (by kernel_rfl)))
                  refine value_ (w1 := w') (v := .int .i64 k) (by rfl) rfl ?_ ?_
                  · go_simp
                    (try simp only [i64_w])
                    try rfl
                  refine hK.out _ _ ⟨ge, v1, m11_, m13_, (by rw [ha.out]; exact putSel_upk 4 hb_ rfl rfl rfl), Q_HB, Q_N1, Q_N2, Q_RV, fun h0_ _ => absurd ((hoff 11 (by kernel_rfl)).symm.trans h0_) (by decide), fun h0_ => absurd ((hoff 12 (by kernel_rfl)).symm.trans h0_) (by decide), fun h0_ => absurd ((hoff 11 (by kernel_rfl)).symm.trans h0_) (by decide), fun h0_ => absurd ((hoff 13 (by kernel_rfl)).symm.trans h0_) (by decide)⟩
                refine steps_cons ?_ ?_
                · rintro b a w' ⟨ge, v1, m11_, m13_, ha, Q_HB, Q_N1, Q_N2, Q_RV, Q_EB, Q_R1, Q_X11_, Q_X13_⟩ hb_ hon hoff
                  refine ⟨_, rfl, fun K hK => ?_⟩
                  have e98 : a.tmps[98]? = some (.int .i64 k) := by rw [ha]; exact putSel_on (e := (4, 98, .int .i64 k)) 4 rfl rfl (hon 4 (by kernel_rfl)) rfl
                  replace ha := Aside0.mk ha
                  have HB := Aside0.mk Q_HB
                  have N1 := Aside0.mk (Q_N1 (hoff 12 (by kernel_rfl)))
                  have N2 := Aside0.mk (Q_N2 (hoff 12 (by kernel_rfl)))
                  have RV := Aside0.mk (Q_RV (hoff 12 (by kernel_rfl)))
                  have y2 := YK.out
                  refine value_ (w1 := w') (v := .int .i64 (k + 2)) (by rfl) rfl ?_ ?_
                  · go_simp
                    (try simp only [i64_w])
                    try rfl
                  refine hK.out _ _ ⟨ge, v1, m11_, m13_, (by rw [ha.out]; exact putSel_upk 5 hb_ rfl rfl rfl), Q_HB, Q_N1, Q_N2, Q_RV, fun h0_ _ => absurd ((hoff 11 (by kernel_rfl)).symm.trans h0_) (by decide), fun h0_ => absurd ((hoff 12 (by kernel_rfl)).symm.trans h0_) (by decide), fun h0_ => absurd ((hoff 11 (by kernel_rfl)).symm.trans h0_) (by decide), fun h0_ => absurd ((hoff 13 (by kernel_rfl)).symm.trans h0_) (by decide)⟩
                refine steps_cons ?_ ?_
                · rintro b a w' ⟨ge, v1, m11_, m13_, ha, Q_HB, Q_N1, Q_N2, Q_RV, Q_EB, Q_R1, Q_X11_, Q_X13_⟩ hb_ hon hoff
                  refine ⟨_, rfl, fun K hK => ?_⟩
                  have e8 : a.tmps[8]? = some (.int .i64 L.length) := by rw [ha]; exact (putSel_off rfl).trans rfl
                  replace ha := Aside0.mk ha
                  have HB := Aside0.mk Q_HB
                  have N1 := Aside0.mk (Q_N1 (hoff 12 (by kernel_rfl)))
                  have N2 := Aside0.mk (Q_N2 (hoff 12 (by kernel_rfl)))
                  have RV := Aside0.mk (Q_RV (hoff 12 (by kernel_rfl)))
                  refine value_ (w1 := w') (v := .int .i64 L.length) (by rfl) rfl ?_ ?_
                  · go_simp
                    (try simp only [i64_w])
                    try rfl
                  refine hK.out _ _ ⟨ge, v1, m11_, m13_, (by rw [ha.out]; exact putSel_upk 6 hb_ rfl rfl rfl), Q_HB, Q_N1, Q_N2, Q_RV, fun h0_ _ => absurd ((hoff 11 (by kernel_rfl)).symm.trans h0_) (by decide), fun h0_ => absurd ((hoff 12 (by kernel_rfl)).symm.trans h0_) (by decide), fun h0_ => absurd ((hoff 11 (by kernel_rfl)).symm.trans h0_) (by decide), fun h0_ => absurd ((hoff 13 (by kernel_rfl)).symm.trans h0_) (by decide)⟩
                refine steps_cons ?_ ?_
                · rintro b a w' ⟨ge, v1, m11_, m13_, ha, Q_HB, Q_N1, Q_N2, Q_RV, Q_EB, Q_R1, Q_X11_, Q_X13_⟩ hb_ hon hoff
                  refine ⟨_, rfl, fun K hK => ?_⟩
                  have e99 : a.tmps[99]? = some (.int .i64 (k + 2)) := by rw [ha]; exact putSel_on (e := (5, 99, .int .i64 (k + 2))) 5 rfl rfl (hon 5 (by kernel_rfl)) rfl
                  have e100 : a.tmps[100]? = some (.int .i64 L.length) := by rw [ha]; exact putSel_on (e := (6, 100, .int .i64 L.length)) 6 rfl rfl (hon 6 (by kernel_rfl)) rfl
                  replace ha := Aside0.mk ha
                  have HB := Aside0.mk Q_HB
                  have N1 := Aside0.mk (Q_N1 (hoff 12 (by kernel_rfl)))
                  have N2 := Aside0.mk (Q_N2 (hoff 12 (by kernel_rfl)))
                  have RV := Aside0.mk (Q_RV (hoff 12 (by kernel_rfl)))
                  have y3 := YZ.out
                  have y4 := YM.out
                  refine value_ (w1 := w') (v := .int .i64 i2) (by rfl) rfl ?_ ?_
                  · go_simp
                    (try simp only [i64_w])
                    try rfl
                  refine hK.out _ _ ⟨ge, v1, m11_, m13_, (by rw [ha.out]; exact putSel_upk 7 hb_ rfl rfl rfl), Q_HB, Q_N1, Q_N2, Q_RV, fun h0_ _ => absurd ((hoff 11 (by kernel_rfl)).symm.trans h0_) (by decide), fun h0_ => absurd ((hoff 12 (by kernel_rfl)).symm.trans h0_) (by decide), fun h0_ => absurd ((hoff 11 (by kernel_rfl)).symm.trans h0_) (by decide), fun h0_ => absurd ((hoff 13 (by kernel_rfl)).symm.trans h0_) (by decide)⟩
                refine steps_cons ?_ ?_
                · rintro b a w' ⟨ge, v1, m11_, m13_, ha, Q_HB, Q_N1, Q_N2, Q_RV, Q_EB, Q_R1, Q_X11_, Q_X13_⟩ hb_ hon hoff
                  refine ⟨_, rfl, fun K hK => ?_⟩
                  have e97 : a.tmps[97]? = some (.slice (some ad) L.length cv) := by rw [ha]; exact putSel_on (e := (3, 97, .slice (some ad) L.length cv)) 3 rfl rfl (hon 3 (by kernel_rfl)) rfl
                  have e101 : a.tmps[101]? = some (.int .i64 i2) := by rw [ha]; exact putSel_on (e := (7, 101, .int .i64 i2)) 7 rfl rfl (hon 7 (by kernel_rfl)) rfl
                  replace ha := Aside0.mk ha
                  have HB := Aside0.mk Q_HB
                  have N1 := Aside0.mk (Q_N1 (hoff 12 (by kernel_rfl)))
                  have N2 := Aside0.mk (Q_N2 (hoff 12 (by kernel_rfl)))
                  have RV := Aside0.mk (Q_RV (hoff 12 (by kernel_rfl)))
                  have y5 := Y4.out
                  have y6 := Y5.out
                  refine value_ (w1 := w') (v := .pointer (some (ad.add (i2 * 3)))) (by rfl) rfl ?_ ?_
                  · go_simp
                    (try simp only [i64_w])
                    try rfl
                  refine hK.out _ _ ⟨ge, v1, m11_, m13_, (by rw [ha.out]; exact putSel_upk 8 hb_ rfl rfl rfl), Q_HB, Q_N1, Q_N2, Q_RV, fun h0_ _ => absurd ((hoff 11 (by kernel_rfl)).symm.trans h0_) (by decide), fun h0_ => absurd ((hoff 12 (by kernel_rfl)).symm.trans h0_) (by decide), fun h0_ => absurd ((hoff 11 (by kernel_rfl)).symm.trans h0_) (by decide), fun h0_ => absurd ((hoff 13 (by kernel_rfl)).symm.trans h0_) (by decide)⟩
                refine steps_cons ?_ ?_
                · rintro b a w' ⟨ge, v1, m11_, m13_, ha, Q_HB, Q_N1, Q_N2, Q_RV, Q_EB, Q_R1, Q_X11_, Q_X13_⟩ hb_ hon hoff
                  refine ⟨_, rfl, fun K hK => ?_⟩
                  have e102 : a.tmps[102]? = some (.pointer (some (ad.add (i2 * 3)))) := by rw [ha]; exact putSel_on (e := (8, 102, .pointer (some (ad.add (i2 * 3))))) 8 rfl rfl (hon 8 (by kernel_rfl)) rfl
                  replace ha := Aside0.mk ha
                  have HB := Aside0.mk Q_HB
                  have N1 := Aside0.mk (Q_N1 (hoff 12 (by kernel_rfl)))
                  have N2 := Aside0.mk (Q_N2 (hoff 12 (by kernel_rfl)))
                  have RV := Aside0.mk (Q_RV (hoff 12 (by kernel_rfl)))
                  have z10 : w'.cell? (ad.add (i2 * 3)) = some (.int .i64 Rx) := pw_cell_below HB.out R0.out
                  have z11 : w'.cell? ⟨(ad.add (i2 * 3)).block, (ad.add (i2 * 3)).off + 1, none⟩ = some (.int .i64 Ry) := pw_cell_below HB.out R1.out
                  have z12 : w'.cell? ⟨(ad.add (i2 * 3)).block, (ad.add (i2 * 3)).off + 2, none⟩ = some (.bool Rf) := pw_cell_below HB.out R2.out
                  refine value_ (w1 := w') (v := .agg #[.int .i64 Rx, .int .i64 Ry, .bool Rf]) (by rfl) rfl ?_ ?_
                  · go_simp
                    (try simp only [i64_w])
                    try rfl
                  refine hK.out _ _ ⟨ge, v1, m11_, m13_, (by rw [ha.out]; exact putSel_upk 9 hb_ rfl rfl rfl), Q_HB, Q_N1, Q_N2, Q_RV, fun h0_ _ => absurd ((hoff 11 (by kernel_rfl)).symm.trans h0_) (by decide), fun h0_ => absurd ((hoff 12 (by kernel_rfl)).symm.trans h0_) (by decide), fun h0_ => absurd ((hoff 11 (by kernel_rfl)).symm.trans h0_) (by decide), fun h0_ => absurd ((hoff 13 (by kernel_rfl)).symm.trans h0_) (by decide)⟩
                refine steps_cons ?_ ?_
                · rintro b a w' ⟨ge, v1, m11_, m13_, ha, Q_HB, Q_N1, Q_N2, Q_RV, Q_EB, Q_R1, Q_X11_, Q_X13_⟩ hb_ hon hoff
                  refine ⟨_, rfl, fun K hK => ?_⟩
                  have e95 : a.tmps[95]? = some (.agg #[.int .i64 Px, .int .i64 Py, .bool true]) := by rw [ha]; exact putSel_on (e := (1, 95, .agg #[.int .i64 Px, .int .i64 Py, .bool true])) 1 rfl rfl (hon 1 (by kernel_rfl)) rfl
                  have e96 : a.tmps[96]? = some (.agg #[.int .i64 Qx, .int .i64 Qy, .bool false]) := by rw [ha]; exact putSel_on (e := (2, 96, .agg #[.int .i64 Qx, .int .i64 Qy, .bool false])) 2 rfl rfl (hon 2 (by kernel_rfl)) rfl
                  have e103 : a.tmps[103]? = some (.agg #[.int .i64 Rx, .int .i64 Ry, .bool Rf]) := by rw [ha]; exact putSel_on (e := (9, 103, .agg #[.int .i64 Rx, .int .i64 Ry, .bool Rf])) 9 rfl rfl (hon 9 (by kernel_rfl)) rfl
                  replace ha := Aside0.mk ha
                  have HB := Aside0.mk Q_HB
                  have N1 := Aside0.mk (Q_N1 (hoff 12 (by kernel_rfl)))
                  have N2 := Aside0.mk (Q_N2 (hoff 12 (by kernel_rfl)))
                  have RV := Aside0.mk (Q_RV (hoff 12 (by kernel_rfl)))
                  refine value_ (w1 := w') (v := .agg #[.int .i64 Px, .int .i64 Py, .bool true, .int .i64 Qx, .int .i64 Qy, .bool false, .int .i64 Rx, .int .i64 Ry, .bool Rf, .bool true]) (by rfl) rfl ?_ ?_
                  · go_simp
                    (try simp only [i64_w])
                    try rfl
                  refine hK.out _ _ ⟨ge, v1, m11_, m13_, (by rw [ha.out]; exact putSel_upk 10 hb_ rfl rfl rfl), Q_HB, Q_N1, Q_N2, Q_RV, fun h0_ _ => absurd ((hoff 11 (by kernel_rfl)).symm.trans h0_) (by decide), fun h0_ => absurd ((hoff 12 (by kernel_rfl)).symm.trans h0_) (by decide), fun h0_ => absurd ((hoff 11 (by kernel_rfl)).symm.trans h0_) (by decide), fun h0_ => absurd ((hoff 13 (by kernel_rfl)).symm.trans h0_) (by decide)⟩
                refine steps_cons ?_ ?_
                · rintro b a w' ⟨ge, v1, m11_, m13_, ha, Q_HB, Q_N1, Q_N2, Q_RV, Q_EB, Q_R1, Q_X11_, Q_X13_⟩ hb_ hon hoff
                  refine ⟨_, rfl, fun K hK => ?_⟩
                  have e104 : a.tmps[104]? = some (.agg #[.int .i64 Px, .int .i64 Py, .bool true, .int .i64 Qx, .int .i64 Qy, .bool false, .int .i64 Rx, .int .i64 Ry, .bool Rf, .bool true]) := by rw [ha]; exact putSel_on (e := (10, 104, .agg #[.int .i64 Px, .int .i64 Py, .bool true, .int .i64 Qx, .int .i64 Qy, .bool false, .int .i64 Rx, .int .i64 Ry, .bool Rf, .bool true])) 10 rfl rfl (hon 10 (by kernel_rfl)) rfl
                  replace ha := Aside0.mk ha
                  have HB := Aside0.mk Q_HB
                  have N1 := Aside0.mk (Q_N1 (hoff 12 (by kernel_rfl)))
                  have N2 := Aside0.mk (Q_N2 (hoff 12 (by kernel_rfl)))
                  have RV := Aside0.mk (Q_RV (hoff 12 (by kernel_rfl)))
                  refine value_ (w1 := w'.alloc (.cells #[.int .i64 Px, .int .i64 Py, .bool true, .int .i64 Qx, .int .i64 Qy, .bool false, .int .i64 Rx, .int .i64 Ry, .bool Rf, .bool true] 89)) (v := .slice (some ⟨w'.heap.size, 0, none⟩) 1 1) (by rfl) rfl ?_ ?_
                  · go_simp
                  refine hK.out _ _ ⟨w'.heap.size, v1, (.slice (some ⟨w'.heap.size, 0, none⟩) 1 1), m13_, (by rw [ha.out]; exact putSel_upk 11 hb_ rfl rfl rfl), bthen' HB.out (below_alloc (Below.refl _ w') _), fun _ => N1.out.alloc _, fun _ => N2.out.alloc _, fun _ => Kd.R_below RV.out (below_alloc (Below.refl _ w') _), fun _ _ => Blk.new w' _ _ rfl, fun h0_ => absurd ((hoff 12 (by kernel_rfl)).symm.trans h0_) (by decide), fun _ => rfl, fun h0_ => absurd ((hoff 13 (by kernel_rfl)).symm.trans h0_) (by decide)⟩
                refine steps_cons ?_ ?_
                · rintro b a w' ⟨ge, v1, m11_, m13_, ha, Q_HB, Q_N1, Q_N2, Q_RV, Q_EB, Q_R1, Q_X11_, Q_X13_⟩ hb_ hon hoff
                  refine ⟨_, rfl, fun K hK => ?_⟩
                  have e94 : a.tmps[94]? = some (.slice Ax os.length cx) := by rw [ha]; exact putSel_on (e := (0, 94, .slice Ax os.length cx)) 0 rfl rfl (hon 0 (by kernel_rfl)) rfl
                  have e105 : a.tmps[105]? = some (m11_) := by rw [ha]; exact putSel_on (e := (11, 105, m11_)) 11 rfl rfl (hon 11 (by kernel_rfl)) rfl
                  rw [Q_X11_ (hon 11 (by kernel_rfl))] at e105
                  replace ha := Aside0.mk ha
                  have HB := Aside0.mk Q_HB
                  have N1 := Aside0.mk (Q_N1 hb_)
                  have N2 := Aside0.mk (Q_N2 hb_)
                  have RV := Aside0.mk (Q_RV hb_)
                  have EB := Aside0.mk (Q_EB (hon 11 (by kernel_rfl)) hb_)
                  obtain ⟨vv, w2, hr, o1, o2, o3⟩ := append_kd (d := k89) 86 89 _ 80 Tryd.underlying86 info89 rfl (by decide) (by omega) RV.out HB.out HB.out.size ge ⟨⟨Px, Py, true⟩, ⟨Qx, Qy, false⟩, ⟨Rx, Ry, Rf⟩, true⟩ [.int .i64 Px, .int .i64 Py, .bool true, .int .i64 Qx, .int .i64 Qy, .bool false, .int .i64 Rx, .int .i64 Ry, .bool Rf, .bool true] EB.out (k89_mkM _ _ _ ⟨⟨Px, Py, true⟩, ⟨Qx, Qy, false⟩, ⟨Rx, Ry, Rf⟩, true⟩) (by have := HL.out; (try simp only [List.length_append, List.length_singleton]); omega)
                  refine value_ (w1 := w2) (v := vv) (by rfl) rfl ?_ ?_
                  · exact run_append_opU (by rfl) (by assumption) (by assumption) hr
                  refine hK.out _ _ ⟨ge, vv, m11_, m13_, (by rw [ha.out]; exact putSel_upk 12 hb_ rfl rfl rfl), o2, fun h0_ => absurd ((up_self b 12).symm.trans h0_) (by decide), fun h0_ => absurd ((up_self b 12).symm.trans h0_) (by decide), fun h0_ => absurd ((up_self b 12).symm.trans h0_) (by decide), fun _ h1_ => absurd ((up_self b 12).symm.trans h1_) (by decide), fun _ => o1, Q_X11_, fun h0_ => absurd ((hoff 13 (by kernel_rfl)).symm.trans h0_) (by decide)⟩
                refine steps_cons ?_ ?_
                · rintro b a w' ⟨ge, v1, m11_, m13_, ha, Q_HB, Q_N1, Q_N2, Q_RV, Q_EB, Q_R1, Q_X11_, Q_X13_⟩ hb_ hon hoff
                  refine ⟨_, rfl, fun K hK => ?_⟩
                  have e106 : a.tmps[106]? = some (v1) := by rw [ha]; exact putSel_on (e := (12, 106, v1)) 12 rfl rfl (hon 12 (by kernel_rfl)) rfl
                  replace ha := Aside0.mk ha
                  have HB := Aside0.mk Q_HB
                  have R1 := Aside0.mk (Q_R1 (hon 12 (by kernel_rfl)))
                  refine value_ (w1 := w') (v := v1) (by rfl) rfl ?_ ?_
                  · go_simp
                    (try simp only [i64_w])
                    try rfl
                  refine hK.out _ _ ⟨ge, v1, m11_, (v1), (by rw [ha.out]; exact putSel_upk 13 hb_ rfl rfl rfl), Q_HB, fun h0_ => absurd ((hon 12 (by kernel_rfl)).symm.trans h0_) (by decide), fun h0_ => absurd ((hon 12 (by kernel_rfl)).symm.trans h0_) (by decide), fun h0_ => absurd ((hon 12 (by kernel_rfl)).symm.trans h0_) (by decide), fun _ h1_ => absurd ((hon 12 (by kernel_rfl)).symm.trans h1_) (by decide), Q_R1, Q_X11_, fun _ => rfl⟩
                exact steps_nil
              · rintro b a w' hall ⟨ge, v1, m11_, m13_, ha, Q_HB, Q_N1, Q_N2, Q_RV, Q_EB, Q_R1, Q_X11_, Q_X13_⟩
                clear HB N1 N2 RV
                have hb0_ := hall 0 (by kernel_rfl)
                have hb1_ := hall 1 (by kernel_rfl)
                have hb2_ := hall 2 (by kernel_rfl)
                have hb3_ := hall 3 (by kernel_rfl)
                have hb4_ := hall 4 (by kernel_rfl)
                have hb5_ := hall 5 (by kernel_rfl)
                have hb6_ := hall 6 (by kernel_rfl)
                have hb7_ := hall 7 (by kernel_rfl)
                have hb8_ := hall 8 (by kernel_rfl)
                have hb9_ := hall 9 (by kernel_rfl)
                have hb10_ := hall 10 (by kernel_rfl)
                have hb11_ := hall 11 (by kernel_rfl)
                have hb12_ := hall 12 (by kernel_rfl)
                have hb13_ := hall 13 (by kernel_rfl)
                subst ha
                obtain rfl := Q_X11_ hb11_
                obtain rfl := Q_X13_ hb13_
                simp only [putSel, hb0_, hb1_, hb2_, hb3_, hb4_, hb5_, hb6_, hb7_, hb8_, hb9_, hb10_, hb11_, hb12_, hb13_, if_true, Act.put, List.setIfInBounds_toArray, List.set_cons_zero, List.set_cons_succ]
                have HB := Aside0.mk Q_HB
                clear Q_HB
                clear Q_N1
                clear Q_N2
                clear Q_RV
                clear Q_EB
                have R1 := Aside0.mk (Q_R1 hb12_)
                clear Q_R1
                clear hall hb0_ hb1_ hb2_ hb3_ hb4_ hb5_ hb6_ hb7_ hb8_ hb9_ hb10_ hb11_ hb12_ hb13_
                have HB5 := Lib.hid HB.out
                have HR5 := Lib.hid R1.out
                have hlt := HKL.out
                go_wp2_with fail
                exact ⟨⟨k + 1, by go_num, by omega, HB5, by rw [show outR L (k + 1) = _ from HS.out]; exact HR5⟩, by simp [intOf]; omega⟩
            · clear r0 r1 r2 B2 B1b
              go_wp2_with (at_builtin; go_loud (refine Kd.R_append k89 (W := w2) (w0 := wo) wo.heap.size rfl (.tmp 88) (.tmp 92) 86 89 _ 80 rfl Tryd.underlying86 info89 rfl (by decide) (by omega) (.slice Ax os.length cx) os ⟨⟨Px, Py, true⟩, z30, ⟨Qx, Qy, true⟩, false⟩ [.int .i64 Px, .int .i64 Py, .bool true, .int .i64 0, .int .i64 0, .bool false, .int .i64 Qx, .int .i64 Qy, .bool true, .bool false] (fun _ => True) (fun _ => False) rfl rfl (k89_mkM _ _ _ ⟨⟨Px, Py, true⟩, z30, ⟨Qx, Qy, true⟩, false⟩) (fun _ h => h.elim) (fun _ _ => trivial) HVb.out HBb.out HBb.out.size (by omega) ?_); intro v5 w5 hR5 hB5 hG5 hat5; have HR5 := Lib.hid hR5; have HB5 := Lib.hid hB5; clear hR5 hB5 hG5 hat5 HVb HBb)
              exact ⟨⟨k + 1, by go_num, by omega, HB5, by rw [show outR L (k + 1) = _ from HS.out]; exact HR5⟩, by simp [intOf]; omega⟩
        · have hkl : k = L.length := by omega
          subst hkl
          go_wp2_with fail
          go_ret
          exact ⟨_, rfl, by rw [HP.out]; exact Kd.R_lower HVx.out HBr.out.size, bthen' HBr.out HBx.out⟩
end Go.Proofs.YtleljodcdbhifaaDoor
/- The reference's winding number: walked. -/
set_option linter.unusedVariables false
set_option linter.unusedSimpArgs false
namespace Go.Proofs.YtleljodcdbhifaaDoor
open Go.RowKit Go.Proofs.YtleljodcdbhifaaDoorW.PrintWords Go.Proofs.YtleljodcdbhifaaDoorW.PrintLast Go.Proofs.YtleljodcdbhifaaDoorW.PrintMore Hy
attribute [local go_sem ↓] Go.wp_at_zero Go.wp_at_succ
def rfWnd.T11 : Bool × List (List Nat × List Nat) := (true, [([], []), ([], []), ([], []), ([1, 2], [1, 2]), ([3], [3]), ([4], [4]), ([], []), ([], []), ([6, 7], [6, 7]), ([8], [8]), ([9], [9]), ([], []), ([11], [11]), ([], []), ([13], [13]), ([5, 10, 12, 14], [5, 10, 12, 14]), ([0, 15], [0, 15]), ([16, 15, 0, 1, 2, 3, 4, 5, 6, 7, 8, 9, 10, 11, 12, 13, 14, 15, 16], [0, 16])])
def rfWnd.B11 : List Nat := [0, 0, 0, 6, 14, 30, 0, 0, 192, 448, 960, 0, 2048, 0, 8192, 32766, 65535, 131071]
theorem rfWnd.tab11 : rtab .any (opsOf Tryd.f35 11) = rfWnd.T11 := by kernel_rfl
theorem rfWnd.bits11 : waitsOk rfWnd.T11.2 rfWnd.B11 = true := by kernel_rfl
def nearPt (p : S30) : Prop := near13 p.f0 ∧ near13 p.f1
def nearR (s : S89) : Prop := nearPt s.f0 ∧ nearPt s.f1 ∧ nearPt s.f2
theorem nearPt_0 : nearPt z30 := by
  show near13 0 ∧ near13 0
  unfold near13
  omega
theorem ptsR_near (c : List S30) (h : nearC c) (h0 : 0 < c.length) : ∀ n, ∀ p ∈ ptsR c n, nearPt p
  | 0, p, hp => by cases hp
  | n + 1, p, hp => by
    rcases List.mem_append.1 hp with hp | hp
    · exact ptsR_near c h h0 n p hp
    · have a := ptAt_near h h0 n
      have b := ptAt_near h h0 (n + 1)
      unfold blkR at hp
      unfold nearPt near13
      split at hp
      · rcases List.mem_cons.1 hp with rfl | hp
        · show (_ ≤ 2 * (ptAt c n).f0 ∧ 2 * (ptAt c n).f0 ≤ _) ∧ (_ ≤ 2 * (ptAt c n).f1 ∧ 2 * (ptAt c n).f1 ≤ _)
          omega
        · obtain rfl := List.mem_singleton.1 hp
          show (_ ≤ (ptAt c n).f0 + (ptAt c (n + 1)).f0 ∧ (ptAt c n).f0 + (ptAt c (n + 1)).f0 ≤ _) ∧ (_ ≤ (ptAt c n).f1 + (ptAt c (n + 1)).f1 ∧ (ptAt c n).f1 + (ptAt c (n + 1)).f1 ≤ _)
          omega
      · obtain rfl := List.mem_singleton.1 hp
        show (_ ≤ 2 * (ptAt c n).f0 ∧ 2 * (ptAt c n).f0 ≤ _) ∧ (_ ≤ 2 * (ptAt c n).f1 ∧ 2 * (ptAt c n).f1 ≤ _)
        omega
theorem outR_near (L : List S30) (h : ∀ p ∈ L, nearPt p) (h0 : 0 < L.length) : ∀ n, ∀ s ∈ outR L n, nearR s
  | 0, s, hs => by cases hs
  | n + 1, s, hs => by
    rcases List.mem_append.1 hs with hs | hs
    · exact outR_near L h h0 n s hs
    · have a := h _ (ptAt_mem n h0)
      have b := h _ (ptAt_mem (n + 1) h0)
      have c := h _ (ptAt_mem (n + 2) h0)
      unfold itR at hs
      split at hs
      · split at hs
        · obtain rfl := List.mem_singleton.1 hs
          exact ⟨a, nearPt_0, b⟩
        · obtain rfl := List.mem_singleton.1 hs
          exact ⟨a, b, c⟩
      · cases hs
theorem pcsR_near (c : List S30) (h : nearC c) : ∀ s ∈ pcsR c, nearR s := by
  intro s hs
  rcases Nat.eq_zero_or_pos (ptsR c c.length).length with e | e
  · unfold pcsR at hs
    rw [e] at hs
    cases hs
  · have h0 : 0 < c.length := by
      have := ptsR_len c c.length
      omega
    exact outR_near _ (ptsR_near c h h0 _) e _ s hs
theorem pcsR_len (c : List S30) : (pcsR c).length ≤ 2 * c.length := Nat.le_trans (outR_len _ _) (ptsR_len c _)
theorem cntR_b (s : S89) (x y : Int) : -1 ≤ cntR s x y ∧ cntR s x y ≤ 1 := by
  unfold cntR
  split
  · exact cnt_b s.f0.f0 s.f0.f1 s.f1.f0 s.f1.f1 s.f2.f0 s.f2.f1 true x y
  · exact cnt_b s.f0.f0 s.f0.f1 0 0 s.f2.f0 s.f2.f1 false x y
theorem windR_b (l : List S89) (x y : Int) : -(l.length : Int) ≤ windR l x y ∧ windR l x y ≤ l.length := by
  induction l with
  | nil => simp [windR]
  | cons s l ih =>
    have e : windR (s :: l) x y = cntR s x y + windR l x y := by simp [windR]
    have := cntR_b s x y
    rw [e, List.length_cons]
    omega
theorem windR_take (l : List S89) (x y : Int) (k : Nat) (h : k < l.length) : windR (l.take (k + 1)) x y = windR (l.take k) x y + cntR (l.getD k z89) x y := by
  rw [List.take_succ_eq_append_getElem h, windR_app, windR_one, List.getD_eq_getElem?_getD, List.getElem?_eq_getElem h]
  rfl
theorem windA_take (l : List (List S30)) (x y : Int) (k : Nat) (h : k < l.length) : windA (l.take (k + 1)) x y = windA (l.take k) x y + windR (pcsR (l.getD k [])) (2 * x) (2 * y) := by
  unfold windA
  rw [List.take_succ_eq_append_getElem h, List.map_append, List.sum_append, List.getD_eq_getElem?_getD, List.getElem?_eq_getElem h]
  simp
theorem windA_b (l : List (List S30)) (x y : Int) (hm : ∀ c ∈ l, c.length ≤ 1000) : -(2000 * l.length : Int) ≤ windA l x y ∧ windA l x y ≤ 2000 * l.length := by
  induction l with
  | nil => simp [windA]
  | cons c l ih =>
    have e : windA (c :: l) x y = windR (pcsR c) (2 * x) (2 * y) + windA l x y := by simp [windA]
    have h1 := windR_b (pcsR c) (2 * x) (2 * y)
    have h2 := pcsR_len c
    have h3 := hm c (List.mem_cons_self ..)
    have h4 := ih fun d hd => hm d (List.mem_cons_of_mem _ hd)
    rw [e, List.length_cons]
    omega
theorem getD_memR {α : Type} {l : List α} {k : Nat} (h : k < l.length) (z : α) : l.getD k z ∈ l := by
  rw [List.getD_eq_getElem?_getD, List.getElem?_eq_getElem h]
  exact List.getElem_mem h
set_option maxRecDepth 100000 in
set_option maxHeartbeats 4000000 in
theorem windingR_any (l : List (List S30)) (A : Option Addr) (c : Nat) (x y : Int) (w : World) (hC : Kd.C (Kd.slice 30 k30) w A l.length l) (hl : l.length ≤ 4) (hm : ∀ c ∈ l, c.length ≤ 1000) (hn : ∀ c ∈ l, nearC c) (hx : -8192 ≤ x ∧ x ≤ 8192) (hy : -8192 ≤ y ∧ y ≤ 8192) :
    Calls Tryd.prog 35 #[.slice A l.length c, .int .i64 x, .int .i64 y] w fun e w' => e = .returned (.int .i64 (windA l x y)) ∧ Below w.heap.size w w' := by
  have HC := Lib.hid hC
  have HM := Lib.hid hm
  have HN := Lib.hid hn
  have HX : Hid (near14 (2 * x)) := Lib.hid (by unfold near14; omega)
  have HY : Hid (near14 (2 * y)) := Lib.hid (by unfold near14; omega)
  clear hC hm hn
  go_enter Tryd.func35, Tryd.ntmps35
  go_wp2_with fail
  go_loopw [7, 8] (fun v i wr => ∃ k : Nat, i = .int .i64 k ∧ k ≤ l.length ∧ Hid (Below w.heap.size w wr) ∧ v = .int .i64 (windA (l.take k) x y)) (fun _ i _ => l.length - (intOf i).toNat)
  case atStart => exact ⟨0, rfl, Nat.zero_le _, Lib.hid (Below.refl _ _), rfl⟩
  case round =>
    obtain ⟨k, rfl, hk, HBr, rfl⟩ := hrel
    by_cases hlt : k < l.length
    · have d1 : decide (k < l.length) = true := decide_eq_true hlt
      obtain ⟨ad, A0, c0, rfl, h1, hc0, h2⟩ := at_L3 HC.out (k : Int) (by omega) (by omega)
      rw [Int.toNat_natCast] at h1
      have hin : rd_L3 l (k : Int) ∈ l := getD_memR (by omega) _
      have h3 := HM.out _ hin
      have h4 := HN.out _ hin
      have HS : Hid (windA (l.take (k + 1)) x y = windA (l.take k) x y + windR (pcsR (rd_L3 l (k : Int))) (2 * x) (2 * y)) := Lib.hid (windA_take l x y k hlt)
      have hwb := windA_b (l.take k) x y fun d hd => HM.out d (List.mem_of_mem_take hd)
      have htk : (l.take k).length ≤ 4 := by rw [List.length_take]; omega
      clear hin
      generalize rd_L3 l (k : Int) = C at *
      generalize windA (l.take k) x y = wa at *
      have hwb' : -8000 ≤ wa ∧ wa ≤ 8000 := by omega
      clear hwb htk
      replace h1 := pw_cell_below HBr.out h1
      have b0 : (0 : Int) ≤ (k : Int) := by omega
      have b1 : (k : Int) < (l.length : Int) := by omega
      have H4 := Lib.hid h4
      have H2 := Lib.hid (Kd.C_below h2 HBr.out)
      clear h4 h2 hc0
      go_wp2_with fail
      refine (piecesR_any C A0 c0 wr H2.out h3 H4.out).mono ?_
      rintro e w1 ⟨v, rfl, hR, hb⟩
      have HB1 := Lib.hid (bthen' HBr.out hb)
      have hpl := pcsR_len C
      have HP := Lib.hid (pcsR_near C H4.out)
      generalize pcsR C = P at *
      obtain ⟨Av, cv, rfl⟩ := Kd.R_slice hR
      have HD := Lib.hid (Kd.R_reads' hR).2.2
      clear hR hb h1 H4 H2 HBr
      generalize wr = wo at *
      go_wp2_with fail
      go_loopw [7, 10] (fun v i wr => ∃ j : Nat, i = .int .i64 j ∧ j ≤ P.length ∧ Hid (Below w1.heap.size w1 wr) ∧ v = .int .i64 (wa + windR (P.take j) (2 * x) (2 * y))) (fun _ i _ => P.length - (intOf i).toNat)
      case atStart => exact ⟨0, rfl, Nat.zero_le _, Lib.hid (Below.refl _ _), by rw [List.take_zero, windR_nil, Int.add_zero]⟩
      case round =>
        obtain ⟨j, rfl, hj, HBx, rfl⟩ := hrel
        by_cases hjl : j < P.length
        · have d2 : decide (j < P.length) = true := decide_eq_true hjl
          obtain ⟨ap, rfl, p0, p1, p2, p3, p4, p5, p6, p7, p8, p9⟩ := at_T89 HD.out (j : Int) (by omega) (by omega)
          rw [Int.toNat_natCast] at p0 p1 p2 p3 p4 p5 p6 p7 p8 p9
          have hnr := HP.out _ (getD_memR hjl z89)
          have HT : Hid (windR (P.take (j + 1)) (2 * x) (2 * y) = windR (P.take j) (2 * x) (2 * y) + cntR (rd_T89 P (j : Int)) (2 * x) (2 * y)) := Lib.hid (windR_take P _ _ j hjl)
          have hcb := cntR_b (rd_T89 P (j : Int)) (2 * x) (2 * y)
          have hwb := windR_b (P.take j) (2 * x) (2 * y)
          have htk : (P.take j).length ≤ 2000 := by rw [List.length_take]; omega
          change nearR (rd_T89 P (j : Int)) at hnr
          generalize rd_T89 P (j : Int) = s at *
          obtain ⟨⟨x0, y0, f0⟩, ⟨x1, y1, f1⟩, ⟨x2, y2, f2⟩, fc⟩ := s
          obtain ⟨⟨n0, m0⟩, ⟨n1, m1⟩, n2, m2⟩ := hnr
          dsimp only at p0 p1 p2 p3 p4 p5 p6 p7 p8 p9 n0 m0 n1 m1 n2 m2
          generalize windR (P.take j) (2 * x) (2 * y) = wj at *
          have hwj : -2000 ≤ wj ∧ wj ≤ 2000 := by omega
          have P0 := Lib.hid p0
          have P1 := Lib.hid p1
          have P2 := Lib.hid p2
          have P6 := Lib.hid p6
          have P7 := Lib.hid p7
          have P8 := Lib.hid p8
          replace p0 := pw_cell_below HBx.out p0
          replace p1 := pw_cell_below HBx.out p1
          replace p2 := pw_cell_below HBx.out p2
          replace p3 := pw_cell_below HBx.out p3
          replace p4 := pw_cell_below HBx.out p4
          replace p5 := pw_cell_below HBx.out p5
          replace p6 := pw_cell_below HBx.out p6
          replace p7 := pw_cell_below HBx.out p7
          replace p8 := pw_cell_below HBx.out p8
          replace p9 := pw_cell_below HBx.out p9
          have b2 : (0 : Int) ≤ (j : Int) := by omega
          have b3 : (j : Int) < (P.length : Int) := by omega
          clear hwb htk
          cases fc
          · simp only [cntR, Bool.false_eq_true, if_false] at HT hcb
            have HT' := Lib.hid HT.out
            clear HT
            go_upto_region 11 with fail
            obtain ⟨cn, hcn⟩ : ∃ cn, cntL x0 y0 x2 y2 (2 * x) (2 * y) = cn := ⟨_, rfl⟩
            rw [hcn] at hcb HT'
            have CN := Aside0.mk hcn
            have YX := Aside0.mk (show IntKind.i64.wrap (2 * x) = 2 * x from IntWalk.i64_in _ (by omega))
            have YY := Aside0.mk (show IntKind.i64.wrap (2 * y) = 2 * y from IntWalk.i64_in _ (by omega))
            have YS := Aside0.mk (show IntKind.i64.wrap (wa + wj + cn) = wa + wj + cn from IntWalk.i64_in _ (by omega))
            have Y0 := Aside0.mk b2
            have Y1 := Aside0.mk b3
            have HJL := Lib.hid hjl
            replace n0 := Aside0.mk n0
            replace m0 := Aside0.mk m0
            replace n2 := Aside0.mk n2
            replace m2 := Aside0.mk m2
            clear p0 p1 p2 p3 p4 p5 p6 p7 p8 p9 hcn hcb hwj d2 b0 b1 b2 b3 n1 m1 hx hy d1 hwb'
            refine start_ (n := 18) (S := fun w' => True) (ds := []) #[false, false, false, false, false, false, false, false, false, false, false, false, false, false, false, false, false, false] (by kernel_rfl) rfl rfl trivial (fun hHeld => ?_)
            refine with_tabW rfWnd.tab11 rfWnd.bits11 (fun HT_ HW_ => ?_)
            have HB : Aside0 (Below w1.heap.size w1 wr.drew) := ⟨bdrew HBx.out⟩
            generalize hwd : wr.drew = w1' at *
            clear hwd
            refine inv_at [0, 1, 2, 3, 4, 5, 6, 7, 8, 9, 10, 11, 12, 13, 14, 15, 16, 17] (fun a0_ b a w' => a = putSel a0_ b [(0, 44, .int .i64 (wa + wj)), (1, 45, .slice (some ap) P.length cv), (2, 46, .int .i64 j), (3, 47, .pointer (some (ap.add (j * 10)))), (4, 48, .pointer (some (ap.add (j * 10)))), (5, 49, .agg #[.int .i64 x0, .int .i64 y0, .bool f0]), (6, 50, .slice (some ap) P.length cv), (7, 51, .int .i64 j), (8, 52, .pointer (some (ap.add (j * 10)))), (9, 53, .pointer (some ⟨(ap.add (j * 10)).block, (ap.add (j * 10)).off + 6, none⟩)), (10, 54, .agg #[.int .i64 x2, .int .i64 y2, .bool f2]), (11, 55, .int .i64 x), (12, 56, .int .i64 (2 * x)), (13, 57, .int .i64 y), (14, 58, .int .i64 (2 * y)), (15, 59, .int .i64 cn), (16, 60, .int .i64 (wa + wj + cn)), (17, 7, .int .i64 (wa + wj + cn))] ∧ (Below w1.heap.size w1 w')) HT_.out HW_.out (by kernel_rfl) (by kernel_rfl) ?_ ?_ ?_
            · exact ⟨by simp only [putSel, Bool.false_eq_true, if_false], HB.out⟩
            · skip
              clear HB
              refine steps_cons ?_ ?_
              · rintro b a w' ⟨ha, Q_HB⟩ hb_ hon hoff
                refine ⟨_, rfl, fun K hK => ?_⟩
                have e7 : a.tmps[7]? = some (.int .i64 (wa + wj)) := by rw [ha]; exact (putSel_not (hoff 17 (by kernel_rfl)) rfl).trans rfl
                replace ha := Aside0.mk ha
                have HB := Aside0.mk Q_HB
                refine value_ (w1 := w') (v := .int .i64 (wa + wj)) (by rfl) rfl ?_ ?_
                · go_simp
                  (try simp only [i64_w])
                  try rfl
                refine hK.out _ _ ⟨(by rw [ha.out]; exact putSel_upk 0 hb_ rfl rfl rfl), Q_HB⟩
              refine steps_cons ?_ ?_
              · rintro b a w' ⟨ha, Q_HB⟩ hb_ hon hoff
                refine ⟨_, rfl, fun K hK => ?_⟩
                have e9 : a.tmps[9]? = some (.slice (some ap) P.length cv) := by rw [ha]; exact (putSel_off rfl).trans rfl
                replace ha := Aside0.mk ha
                have HB := Aside0.mk Q_HB
                refine value_ (w1 := w') (v := .slice (some ap) P.length cv) (by rfl) rfl ?_ ?_
                · go_simp
                  (try simp only [i64_w])
                  try rfl
                refine hK.out _ _ ⟨(by rw [ha.out]; exact putSel_upk 1 hb_ rfl rfl rfl), Q_HB⟩
              refine steps_cons ?_ ?_
              · rintro b a w' ⟨ha, Q_HB⟩ hb_ hon hoff
                refine ⟨_, rfl, fun K hK => ?_⟩
                have e10 : a.tmps[10]? = some (.int .i64 j) := by rw [ha]; exact (putSel_off rfl).trans rfl
                replace ha := Aside0.mk ha
                have HB := Aside0.mk Q_HB
                refine value_ (w1 := w') (v := .int .i64 j) (by rfl) rfl ?_ ?_
                · go_simp
                  (try simp only [i64_w])
                  try rfl
                refine hK.out _ _ ⟨(by rw [ha.out]; exact putSel_upk 2 hb_ rfl rfl rfl), Q_HB⟩
              refine steps_cons ?_ ?_
              · rintro b a w' ⟨ha, Q_HB⟩ hb_ hon hoff
                refine ⟨_, rfl, fun K hK => ?_⟩
                have e45 : a.tmps[45]? = some (.slice (some ap) P.length cv) := by rw [ha]; exact putSel_on (e := (1, 45, .slice (some ap) P.length cv)) 1 rfl rfl (hon 1 (by kernel_rfl)) rfl
                have e46 : a.tmps[46]? = some (.int .i64 j) := by rw [ha]; exact putSel_on (e := (2, 46, .int .i64 j)) 2 rfl rfl (hon 2 (by kernel_rfl)) rfl
                replace ha := Aside0.mk ha
                have HB := Aside0.mk Q_HB
                have y0 := Y0.out
                have y1 := Y1.out
                refine value_ (w1 := w') (v := .pointer (some (ap.add (j * 10)))) (by rfl) rfl ?_ ?_
                · go_simp
                  (try simp only [i64_w])
                  try rfl
                refine hK.out _ _ ⟨(by rw [ha.out]; exact putSel_upk 3 hb_ rfl rfl rfl), Q_HB⟩
              refine steps_cons ?_ ?_
              · rintro b a w' ⟨ha, Q_HB⟩ hb_ hon hoff
                refine ⟨_, rfl, fun K hK => ?_⟩
                have e47 : a.tmps[47]? = some (.pointer (some (ap.add (j * 10)))) := by rw [ha]; exact putSel_on (e := (3, 47, .pointer (some (ap.add (j * 10))))) 3 rfl rfl (hon 3 (by kernel_rfl)) rfl
                replace ha := Aside0.mk ha
                have HB := Aside0.mk Q_HB
                refine value_ (w1 := w') (v := .pointer (some (ap.add (j * 10)))) (by rfl) rfl ?_ ?_
                · go_simp
                  (try simp only [i64_w])
                  try rfl
                refine hK.out _ _ ⟨(by rw [ha.out]; exact putSel_upk 4 hb_ rfl rfl rfl), Q_HB⟩
              refine steps_cons ?_ ?_
              · rintro b a w' ⟨ha, Q_HB⟩ hb_ hon hoff
                refine ⟨_, rfl, fun K hK => ?_⟩
                have e48 : a.tmps[48]? = some (.pointer (some (ap.add (j * 10)))) := by rw [ha]; exact putSel_on (e := (4, 48, .pointer (some (ap.add (j * 10))))) 4 rfl rfl (hon 4 (by kernel_rfl)) rfl
                replace ha := Aside0.mk ha
                have HB := Aside0.mk Q_HB
                have z10 : w'.cell? (ap.add (j * 10)) = some (.int .i64 x0) := pw_cell_below HB.out P0.out
                have z11 : w'.cell? ⟨(ap.add (j * 10)).block, (ap.add (j * 10)).off + 1, none⟩ = some (.int .i64 y0) := pw_cell_below HB.out P1.out
                have z12 : w'.cell? ⟨(ap.add (j * 10)).block, (ap.add (j * 10)).off + 2, none⟩ = some (.bool f0) := pw_cell_below HB.out P2.out
                refine value_ (w1 := w') (v := .agg #[.int .i64 x0, .int .i64 y0, .bool f0]) (by rfl) rfl ?_ ?_
                · go_simp
                  (try simp only [i64_w])
                  try rfl
                refine hK.out _ _ ⟨(by rw [ha.out]; exact putSel_upk 5 hb_ rfl rfl rfl), Q_HB⟩
              refine steps_cons ?_ ?_
              · rintro b a w' ⟨ha, Q_HB⟩ hb_ hon hoff
                refine ⟨_, rfl, fun K hK => ?_⟩
                have e9 : a.tmps[9]? = some (.slice (some ap) P.length cv) := by rw [ha]; exact (putSel_off rfl).trans rfl
                replace ha := Aside0.mk ha
                have HB := Aside0.mk Q_HB
                refine value_ (w1 := w') (v := .slice (some ap) P.length cv) (by rfl) rfl ?_ ?_
                · go_simp
                  (try simp only [i64_w])
                  try rfl
                refine hK.out _ _ ⟨(by rw [ha.out]; exact putSel_upk 6 hb_ rfl rfl rfl), Q_HB⟩
              refine steps_cons ?_ ?_
              · rintro b a w' ⟨ha, Q_HB⟩ hb_ hon hoff
                refine ⟨_, rfl, fun K hK => ?_⟩
                have e10 : a.tmps[10]? = some (.int .i64 j) := by rw [ha]; exact (putSel_off rfl).trans rfl
                replace ha := Aside0.mk ha
                have HB := Aside0.mk Q_HB
                refine value_ (w1 := w') (v := .int .i64 j) (by rfl) rfl ?_ ?_
                · go_simp
                  (try simp only [i64_w])
                  try rfl
                refine hK.out _ _ ⟨(by rw [ha.out]; exact putSel_upk 7 hb_ rfl rfl rfl), Q_HB⟩
              refine steps_cons ?_ ?_
              · rintro b a w' ⟨ha, Q_HB⟩ hb_ hon hoff
                refine ⟨_, rfl, fun K hK => ?_⟩
                have e50 : a.tmps[50]? = some (.slice (some ap) P.length cv) := by rw [ha]; exact putSel_on (e := (6, 50, .slice (some ap) P.length cv)) 6 rfl rfl (hon 6 (by kernel_rfl)) rfl
                have e51 : a.tmps[51]? = some (.int .i64 j) := by rw [ha]; exact putSel_on (e := (7, 51, .int .i64 j)) 7 rfl rfl (hon 7 (by kernel_rfl)) rfl
                replace ha := Aside0.mk ha
                have HB := Aside0.mk Q_HB
                have y0 := Y0.out
                have y1 := Y1.out
                refine value_ (w1 := w') (v := .pointer (some (ap.add (j * 10)))) (by rfl) rfl ?_ ?_
                · go_simp
                  (try simp only [i64_w])
                  try rfl
                refine hK.out _ _ ⟨(by rw [ha.out]; exact putSel_upk 8 hb_ rfl rfl rfl), Q_HB⟩
              refine steps_cons ?_ ?_
              · rintro b a w' ⟨ha, Q_HB⟩ hb_ hon hoff
                refine ⟨_, rfl, fun K hK => ?_⟩
                have e52 : a.tmps[52]? = some (.pointer (some (ap.add (j * 10)))) := by rw [ha]; exact putSel_on (e := (8, 52, .pointer (some (ap.add (j * 10))))) 8 rfl rfl (hon 8 (by kernel_rfl)) rfl
                replace ha := Aside0.mk ha
                have HB := Aside0.mk Q_HB
                refine value_ (w1 := w') (v := .pointer (some ⟨(ap.add (j * 10)).block, (ap.add (j * 10)).off + 6, none⟩)) (by rfl) rfl ?_ ?_
                · go_simp
                  (try simp only [i64_w])
                  try rfl
                refine hK.out _ _ ⟨(by rw [ha.out]; exact putSel_upk 9 hb_ rfl rfl rfl), Q_HB⟩
              refine steps_cons ?_ ?_
              · rintro b a w' ⟨ha, Q_HB⟩ hb_ hon hoff
                refine ⟨_, rfl, fun K hK => ?_⟩
                have e53 : a.tmps[53]? = some (.pointer (some ⟨(ap.add (j * 10)).block, (ap.add (j * 10)).off + 6, none⟩)) := by rw [ha]; exact putSel_on (e := (9, 53, .pointer (some ⟨(ap.add (j * 10)).block, (ap.add (j * 10)).off + 6, none⟩))) 9 rfl rfl (hon 9 (by kernel_rfl)) rfl
                replace ha := Aside0.mk ha
                have HB := Aside0.mk Q_HB
                have z16 : w'.cell? ⟨(ap.add (j * 10)).block, (ap.add (j * 10)).off + 6, none⟩ = some (.int .i64 x2) := pw_cell_below HB.out P6.out
                have z17 : w'.cell? ⟨(ap.add (j * 10)).block, (ap.add (j * 10)).off + 7, none⟩ = some (.int .i64 y2) := pw_cell_below HB.out P7.out
                have z18 : w'.cell? ⟨(ap.add (j * 10)).block, (ap.add (j * 10)).off + 8, none⟩ = some (.bool f2) := pw_cell_below HB.out P8.out
                refine value_ (w1 := w') (v := .agg #[.int .i64 x2, .int .i64 y2, .bool f2]) (by rfl) rfl ?_ ?_
                · go_simp
                  (try simp only [i64_w])
                  try rfl
                refine hK.out _ _ ⟨(by rw [ha.out]; exact putSel_upk 10 hb_ rfl rfl rfl), Q_HB⟩
              refine steps_cons ?_ ?_
              · rintro b a w' ⟨ha, Q_HB⟩ hb_ hon hoff
                refine ⟨_, rfl, fun K hK => ?_⟩
                have e1 : a.tmps[1]? = some (.int .i64 x) := by rw [ha]; exact (putSel_off rfl).trans rfl
                replace ha := Aside0.mk ha
                have HB := Aside0.mk Q_HB
                refine value_ (w1 := w') (v := .int .i64 x) (by rfl) rfl ?_ ?_
                · go_simp
                  (try simp only [i64_w])
                  try rfl
                refine hK.out _ _ ⟨(by rw [ha.out]; exact putSel_upk 11 hb_ rfl rfl rfl), Q_HB⟩
              refine steps_cons ?_ ?_
              · rintro b a w' ⟨ha, Q_HB⟩ hb_ hon hoff
                refine ⟨_, rfl, fun K hK => ?_⟩
                have e55 : a.tmps[55]? = some (.int .i64 x) := by rw [ha]; exact putSel_on (e := (11, 55, .int .i64 x)) 11 rfl rfl (hon 11 (by kernel_rfl)) rfl
                replace ha := Aside0.mk ha
                have HB := Aside0.mk Q_HB
                have y2 := YX.out
                refine value_ (w1 := w') (v := .int .i64 (2 * x)) (by rfl) rfl ?_ ?_
                · go_simp
                  (try simp only [i64_w])
                  try rfl
                refine hK.out _ _ ⟨(by rw [ha.out]; exact putSel_upk 12 hb_ rfl rfl rfl), Q_HB⟩
              refine steps_cons ?_ ?_
              · rintro b a w' ⟨ha, Q_HB⟩ hb_ hon hoff
                refine ⟨_, rfl, fun K hK => ?_⟩
                have e2 : a.tmps[2]? = some (.int .i64 y) := by rw [ha]; exact (putSel_off rfl).trans rfl
                replace ha := Aside0.mk ha
                have HB := Aside0.mk Q_HB
                refine value_ (w1 := w') (v := .int .i64 y) (by rfl) rfl ?_ ?_
                · go_simp
                  (try simp only [i64_w])
                  try rfl
                refine hK.out _ _ ⟨(by rw [ha.out]; exact putSel_upk 13 hb_ rfl rfl rfl), Q_HB⟩
              refine steps_cons ?_ ?_
              · rintro b a w' ⟨ha, Q_HB⟩ hb_ hon hoff
                refine ⟨_, rfl, fun K hK => ?_⟩
                have e57 : a.tmps[57]? = some (.int .i64 y) := by rw [ha]; exact putSel_on (e := (13, 57, .int .i64 y)) 13 rfl rfl (hon 13 (by kernel_rfl)) rfl
                replace ha := Aside0.mk ha
                have HB := Aside0.mk Q_HB
                have y3 := YY.out
                refine value_ (w1 := w') (v := .int .i64 (2 * y)) (by rfl) rfl ?_ ?_
                · go_simp
                  (try simp only [i64_w])
                  try rfl
                refine hK.out _ _ ⟨(by rw [ha.out]; exact putSel_upk 14 hb_ rfl rfl rfl), Q_HB⟩
              refine steps_cons ?_ ?_
              · rintro b a w' ⟨ha, Q_HB⟩ hb_ hon hoff
                refine ⟨_, rfl, fun K hK => ?_⟩
                have e49 : a.tmps[49]? = some (.agg #[.int .i64 x0, .int .i64 y0, .bool f0]) := by rw [ha]; exact putSel_on (e := (5, 49, .agg #[.int .i64 x0, .int .i64 y0, .bool f0])) 5 rfl rfl (hon 5 (by kernel_rfl)) rfl
                have e54 : a.tmps[54]? = some (.agg #[.int .i64 x2, .int .i64 y2, .bool f2]) := by rw [ha]; exact putSel_on (e := (10, 54, .agg #[.int .i64 x2, .int .i64 y2, .bool f2])) 10 rfl rfl (hon 10 (by kernel_rfl)) rfl
                have e56 : a.tmps[56]? = some (.int .i64 (2 * x)) := by rw [ha]; exact putSel_on (e := (12, 56, .int .i64 (2 * x))) 12 rfl rfl (hon 12 (by kernel_rfl)) rfl
                have e58 : a.tmps[58]? = some (.int .i64 (2 * y)) := by rw [ha]; exact putSel_on (e := (14, 58, .int .i64 (2 * y))) 14 rfl rfl (hon 14 (by kernel_rfl)) rfl
                replace ha := Aside0.mk ha
                have HB := Aside0.mk Q_HB
                refine call_ 53 #[.agg #[.int .i64 x0, .int .i64 y0, .bool f0], .agg #[.int .i64 x2, .int .i64 y2, .bool f2], .int .i64 (2 * x), .int .i64 (2 * y)] (by rfl) rfl ?_ ?_
                · go_simp
                refine (lineR_any x0 y0 x2 y2 f0 f2 (2 * x) (2 * y) w' n0.out m0.out n2.out m2.out HX.out HY.out).mono ?_
                rintro e w2' ⟨rfl, hb⟩
                rw [CN.out]
                refine ⟨_, rfl, ?_⟩
                refine hK.out _ _ ⟨(by rw [ha.out]; exact putSel_upk 15 hb_ rfl rfl rfl), bthen' HB.out hb⟩
              refine steps_cons ?_ ?_
              · rintro b a w' ⟨ha, Q_HB⟩ hb_ hon hoff
                refine ⟨_, rfl, fun K hK => ?_⟩
                have e44 : a.tmps[44]? = some (.int .i64 (wa + wj)) := by rw [ha]; exact putSel_on (e := (0, 44, .int .i64 (wa + wj))) 0 rfl rfl (hon 0 (by kernel_rfl)) rfl
                have e59 : a.tmps[59]? = some (.int .i64 cn) := by rw [ha]; exact putSel_on (e := (15, 59, .int .i64 cn)) 15 rfl rfl (hon 15 (by kernel_rfl)) rfl
                replace ha := Aside0.mk ha
                have HB := Aside0.mk Q_HB
                have y4 := YS.out
                refine value_ (w1 := w') (v := .int .i64 (wa + wj + cn)) (by rfl) rfl ?_ ?_
                · go_simp
                  (try simp only [i64_w])
                  try rfl
                refine hK.out _ _ ⟨(by rw [ha.out]; exact putSel_upk 16 hb_ rfl rfl rfl), Q_HB⟩
              refine steps_cons ?_ ?_
              · rintro b a w' ⟨ha, Q_HB⟩ hb_ hon hoff
                refine ⟨_, rfl, fun K hK => ?_⟩
                have e60 : a.tmps[60]? = some (.int .i64 (wa + wj + cn)) := by rw [ha]; exact putSel_on (e := (16, 60, .int .i64 (wa + wj + cn))) 16 rfl rfl (hon 16 (by kernel_rfl)) rfl
                replace ha := Aside0.mk ha
                have HB := Aside0.mk Q_HB
                refine value_ (w1 := w') (v := .int .i64 (wa + wj + cn)) (by rfl) rfl ?_ ?_
                · go_simp
                  (try simp only [i64_w])
                  try rfl
                refine hK.out _ _ ⟨(by rw [ha.out]; exact putSel_upk 17 hb_ rfl rfl rfl), Q_HB⟩
              exact steps_nil
            · rintro b a w' hall ⟨ha, Q_HB⟩
              clear HB
              have hb0_ := hall 0 (by kernel_rfl)
              have hb1_ := hall 1 (by kernel_rfl)
              have hb2_ := hall 2 (by kernel_rfl)
              have hb3_ := hall 3 (by kernel_rfl)
              have hb4_ := hall 4 (by kernel_rfl)
              have hb5_ := hall 5 (by kernel_rfl)
              have hb6_ := hall 6 (by kernel_rfl)
              have hb7_ := hall 7 (by kernel_rfl)
              have hb8_ := hall 8 (by kernel_rfl)
              have hb9_ := hall 9 (by kernel_rfl)
              have hb10_ := hall 10 (by kernel_rfl)
              have hb11_ := hall 11 (by kernel_rfl)
              have hb12_ := hall 12 (by kernel_rfl)
              have hb13_ := hall 13 (by kernel_rfl)
              have hb14_ := hall 14 (by kernel_rfl)
              have hb15_ := hall 15 (by kernel_rfl)
              have hb16_ := hall 16 (by kernel_rfl)
              have hb17_ := hall 17 (by kernel_rfl)
              subst ha
              simp only [putSel, hb0_, hb1_, hb2_, hb3_, hb4_, hb5_, hb6_, hb7_, hb8_, hb9_, hb10_, hb11_, hb12_, hb13_, hb14_, hb15_, hb16_, hb17_, if_true, Act.put, List.setIfInBounds_toArray, List.set_cons_zero, List.set_cons_succ]
              have HB := Aside0.mk Q_HB
              clear Q_HB
              clear hall hb0_ hb1_ hb2_ hb3_ hb4_ hb5_ hb6_ hb7_ hb8_ hb9_ hb10_ hb11_ hb12_ hb13_ hb14_ hb15_ hb16_ hb17_
              have HB3 := Lib.hid HB.out
              have hjl := HJL.out
              go_wp2_with fail
              exact ⟨⟨j + 1, by go_num, by omega, HB3, by rw [HT'.out, Int.add_assoc]⟩, by simp [intOf]; omega⟩
          · simp only [cntR, if_true] at HT hcb
            have HT' := Lib.hid HT.out
            clear HT
            go_wp2_with fail
            refine (curveR_any x0 y0 x1 y1 x2 y2 f0 f1 f2 true (2 * x) (2 * y) wr n0 m0 n1 m1 n2 m2 HX.out HY.out).mono ?_
            rintro e w3 ⟨rfl, hb⟩
            have HB3 := Lib.hid (bthen' HBx.out hb)
            clear hb HBx p0 p1 p2 p3 p4 p5 p6 p7 p8 p9
            generalize cntC x0 y0 x1 y1 x2 y2 (2 * x) (2 * y) = cn at *
            go_wp2_with fail
            exact ⟨⟨j + 1, by go_num, by omega, HB3, by rw [HT'.out, Int.add_assoc]⟩, by simp [intOf]; omega⟩
        · have hjj : j = P.length := by omega
          subst hjj
          rw [List.take_length]
          have HZ := Lib.hid HS.out
          clear HS
          generalize windR P (2 * x) (2 * y) = wj at *
          go_wp2_with fail
          exact ⟨⟨k + 1, by go_num, by omega, Lib.hid (bthen' HB1.out HBx.out), by rw [HZ.out]⟩, by simp [intOf]; omega⟩
    · have hkl : k = l.length := by omega
      subst hkl
      rw [List.take_length]
      go_wp2_with fail
      go_ret
      exact ⟨rfl, HBr.out⟩
end Go.Proofs.YtleljodcdbhifaaDoor
/- The reference's near and allNear: walked. -/
set_option linter.unusedVariables false
set_option linter.unusedSimpArgs false
namespace Go.Proofs.YtleljodcdbhifaaDoor
open Go.RowKit Go.Proofs.YtleljodcdbhifaaDoorW.PrintWords Go.Proofs.YtleljodcdbhifaaDoorW.PrintLast Go.Proofs.YtleljodcdbhifaaDoorW.PrintMore Hy
theorem nearR_any (n : Int) (w : World) : Calls Tryd.prog 33 #[.int .i64 n] w fun e w' => e = .returned (.bool (nearB n)) ∧ w = w' := by
  by_cases h1 : -4096 ≤ n
  · have d1 : decide (-4096 ≤ n) = true := decide_eq_true h1
    have E : nearB n = decide (n ≤ 4096) := by unfold nearB near12; simp [h1]
    rw [E]
    clear E h1
    go_enter Tryd.func33, Tryd.ntmps33
    go_wp2
    go_ret
    exact ⟨rfl, rfl⟩
  · have d1 : decide (-4096 ≤ n) = false := decide_eq_false h1
    have E : nearB n = false := decide_eq_false (fun h => h1 h.1)
    rw [E]
    clear E h1
    go_enter Tryd.func33, Tryd.ntmps33
    go_wp2
    go_ret
    exact ⟨rfl, rfl⟩
theorem nearL_no {l : List (List S30)} {C : List S30} {p : S30} (hC : C ∈ l) (hp : p ∈ C) (h : farB p = true) : nearL l = false := by
  unfold nearL
  rw [List.any_eq_true.2 ⟨C, hC, List.any_eq_true.2 ⟨p, hp, h⟩⟩]
  rfl
theorem nearL_yes {l : List (List S30)} (h : ∀ i, i < l.length → ∀ p ∈ l.getD i [], farB p = false) : nearL l = true := by
  unfold nearL
  rw [Bool.not_eq_true', List.any_eq_false]
  intro C hC
  rw [Bool.not_eq_true, List.any_eq_false]
  intro p hp
  obtain ⟨i, hi, rfl⟩ := List.getElem_of_mem hC
  have := h i hi p (by rw [List.getD_eq_getElem?_getD, List.getElem?_eq_getElem hi]; exact hp)
  rw [this]
  decide
theorem getD_in {α : Type} {l : List α} {k : Nat} (h : k < l.length) (z : α) : l.getD k z ∈ l := by
  rw [List.getD_eq_getElem?_getD, List.getElem?_eq_getElem h]
  exact List.getElem_mem h
theorem pre_snoc {l : List S30} {j : Nat} (h : ∀ i, i < j → farB (l.getD i z30) = false) (hj : farB (l.getD j z30) = false) : ∀ i, i < j + 1 → farB (l.getD i z30) = false := fun i hi => by
  rcases Nat.lt_or_ge i j with k | k
  · exact h i k
  · rw [show i = j by omega]; exact hj
set_option maxRecDepth 100000 in
set_option maxHeartbeats 4000000 in
theorem allNearR_any (l : List (List S30)) (A : Option Addr) (c : Nat) (w : World) (hC : Kd.C (Kd.slice 30 k30) w A l.length l) :
    Calls Tryd.prog 34 #[.slice A l.length c] w fun e w' => e = .returned (.bool (nearL l)) ∧ w = w' := by
  have hmx : l.length ≤ 9223372036854775807 := hC.2.1
  have HC := Lib.hid hC
  clear hC
  go_enter Tryd.func34, Tryd.ntmps34
  go_wp2_with fail
  go_loop [3] (fun i => ∃ k : Nat, i = .int .i64 k ∧ k ≤ l.length ∧ Hid (∀ i, i < k → ∀ p ∈ l.getD i [], farB p = false)) (fun i => l.length - (intOf i).toNat)
  case atStart => exact ⟨0, rfl, Nat.zero_le _, Lib.hid (fun i hi => absurd hi (Nat.not_lt_zero _))⟩
  case round =>
    obtain ⟨k, rfl, hk, HK⟩ := hrel
    by_cases hlt : k < l.length
    · have d1 : decide (k < l.length) = true := decide_eq_true hlt
      obtain ⟨ad, A0, c0, rfl, h1, hc0, h2⟩ := at_L3 HC.out (k : Int) (by omega) (by omega)
      rw [Int.toNat_natCast] at h1
      have HIN : Hid (rd_L3 l (k : Int) ∈ l) := Lib.hid (getD_in (by omega) _)
      have HEQ : Hid (rd_L3 l (k : Int) = l.getD k []) := Lib.hid rfl
      generalize rd_L3 l (k : Int) = C at *
      have hmC : C.length ≤ 9223372036854775807 := h2.2.1
      have b0 : (0 : Int) ≤ (k : Int) := by omega
      have b1 : (k : Int) < (l.length : Int) := by omega
      have H2 := Lib.hid h2
      clear h2 hc0
      go_wp2_with fail
      go_loop [4] (fun i => ∃ j : Nat, i = .int .i64 j ∧ j ≤ C.length ∧ Hid (∀ i, i < j → farB (C.getD i z30) = false)) (fun i => C.length - (intOf i).toNat)
      case atStart => exact ⟨0, rfl, Nat.zero_le _, Lib.hid (fun i hi => absurd hi (Nat.not_lt_zero _))⟩
      case round =>
        obtain ⟨j, rfl, hj, HJ⟩ := hrel
        by_cases hjl : j < C.length
        · have d2 : decide (j < C.length) = true := decide_eq_true hjl
          obtain ⟨ap, rfl, p0, p1, p2⟩ := pt_cells H2.out j hjl
          have HPI : Hid (C.getD j z30 ∈ C) := Lib.hid (getD_in hjl _)
          have HS := Lib.hid (fun h => pre_snoc HJ.out (j := j) h)
          generalize C.getD j z30 = p at *
          obtain ⟨x, y, f⟩ := p
          dsimp only at p0 p1 p2
          have b2 : (0 : Int) ≤ (j : Int) := by omega
          have b3 : (j : Int) < (C.length : Int) := by omega
          have N0 := Lib.hid (nearR_any x)
          have N1 := Lib.hid (nearR_any y)
          have HF : Hid (farB ⟨x, y, f⟩ = (!nearB x || !nearB y)) := Lib.hid rfl
          generalize nearB x = bx at *
          generalize nearB y = by' at *
          clear p2
          cases bx
          · go_wp2_with fail
            refine (N0.out _).mono ?_
            rintro e w' ⟨rfl, rfl⟩
            go_wp2_with fail
            go_ret
            exact ⟨ret_bool (nearL_no HIN.out HPI.out HF.out).symm, rfl⟩
          · cases by'
            · go_wp2_with fail
              refine (N0.out _).mono ?_
              rintro e w' ⟨rfl, rfl⟩
              go_wp2_with fail
              refine (N1.out _).mono ?_
              rintro e w' ⟨rfl, rfl⟩
              go_wp2_with fail
              go_ret
              exact ⟨ret_bool (nearL_no HIN.out HPI.out HF.out).symm, rfl⟩
            · go_wp2_with fail
              refine (N0.out _).mono ?_
              rintro e w' ⟨rfl, rfl⟩
              go_wp2_with fail
              refine (N1.out _).mono ?_
              rintro e w' ⟨rfl, rfl⟩
              go_wp2_with fail
              exact ⟨⟨j + 1, by go_num, by omega, Lib.hid (HS.out HF.out)⟩, by simp [intOf]; omega⟩
        · have HN : Hid (∀ i, i < k + 1 → ∀ p ∈ l.getD i [], farB p = false) := Lib.hid (fun i hi p hp => by
            rcases Nat.lt_or_ge i k with h | h
            · exact HK.out i h p hp
            · rw [show i = k by omega, ← HEQ.out] at hp
              obtain ⟨q, hq, rfl⟩ := List.getElem_of_mem hp
              have := HJ.out q (by omega)
              rw [List.getD_eq_getElem?_getD, List.getElem?_eq_getElem hq] at this
              exact this)
          have d2 : decide (j < C.length) = false := decide_eq_false hjl
          go_wp2_with fail
          exact ⟨⟨k + 1, by go_num, by omega, HN⟩, by simp [intOf]; omega⟩
    · have d1 : decide (k < l.length) = false := decide_eq_false hlt
      have hkl : k = l.length := by omega
      have HE : Hid (nearL l = true) := Lib.hid (nearL_yes fun i hi => HK.out i (by omega))
      go_wp2_with fail
      go_ret
      exact ⟨ret_bool HE.out.symm, rfl⟩
end Go.Proofs.YtleljodcdbhifaaDoor
/- Inside: the program's and the reference's, by one word. -/
set_option linter.unusedVariables false
set_option linter.unusedSimpArgs false
namespace Go.Proofs.YtleljodcdbhifaaDoor
open Go.RowKit Go.Proofs.YtleljodcdbhifaaDoorW.PrintWords Go.Proofs.YtleljodcdbhifaaDoorW.PrintLast Go.Proofs.YtleljodcdbhifaaDoorW.PrintMore Hy
def insB (m : List (List S30)) (x y : Int) : Bool := nearB x && (nearB y && (nearL m && decide (wind (allP m) x y ≠ 0)))
theorem insP_f {m : List (List S30)} (hm : m.length ≤ 100000) (hc : ∀ c ∈ m, c.length ≤ 1000000) (x y : Int) : scan_Inside.f ((allP m).length + 1) m x y = some (insB m x y) := by
  have hle := allP_le m hc
  have e0 : scan_all.f m = some (allR m, nearL m) := by
    unfold scan_all.f
    rw [if_pos ⟨by omega, hc⟩]
  have ex : ∀ z : Int, scan_near.f z = some (nearB z) := fun z => by
    unfold scan_near.f nearB near12
    by_cases h : -4096 ≤ z
    · rw [if_pos h]; simp [h]
    · rw [if_neg h]; simp [h]
  unfold scan_Inside.f insB
  rw [e0, Option.bind_some]
  cases hn : nearL m
  · rw [if_neg (by simp)]
    cases nearB x <;> cases nearB y <;> rfl
  · rw [if_pos rfl, ex x, Option.bind_some]
    cases hx : nearB x
    · rw [if_neg (by simp)]; rfl
    · rw [if_pos rfl, ex y, Option.bind_some]
      cases hy : nearB y
      · rw [if_neg (by simp)]; rfl
      · rw [if_pos rfl]
        have bx : near12 x := of_decide_eq_true hx
        have by' : near12 y := of_decide_eq_true hy
        unfold near12 at bx by'
        have er : allR m = allP m := by unfold allR; rw [if_pos hn]
        have hw := wind_f (allP m) (allP_near hn) (by omega) x y (by omega) (by omega)
        rw [er, hw, Option.bind_some]
        congr 1
        by_cases h : wind (allP m) x y = 0
        · rw [h]; rfl
        · rw [decide_eq_true h]
          simpa using h
theorem inP_any (m : List (List S30)) (A : Option Addr) (c : Nat) (x y : Int) (w : World) (hC : Kd.C (Kd.slice 30 k30) w A m.length m) (hc : m.length ≤ c) (hl : m.length ≤ 4) (hm : ∀ c ∈ m, c.length ≤ 1000) :
    Calls Tryd.prog 14 #[.slice A m.length c, .int .i64 x, .int .i64 y] w fun e w' => e = .returned (.bool (insB m x y)) ∧ Below w.heap.size w w' :=
  scan_Inside.calls _ A c m x y _ w hC hc (insP_f (by omega) (fun c h => Nat.le_trans (hm c h) (by decide)) x y)
theorem nearC_L {m : List (List S30)} (h : nearL m = true) : ∀ c ∈ m, nearC c := by
  intro c hc p hp
  unfold nearL at h
  rw [Bool.not_eq_true', List.any_eq_false] at h
  have h1 := h c hc
  rw [Bool.not_eq_true, List.any_eq_false] at h1
  have h2 := farB_false (by have := h1 p hp; rw [Bool.not_eq_true] at this; exact this)
  unfold nearP near12 at h2
  omega
set_option maxHeartbeats 1000000 in
theorem inR_any (m : List (List S30)) (A : Option Addr) (c : Nat) (x y : Int) (w : World) (hC : Kd.C (Kd.slice 30 k30) w A m.length m) (hl : m.length ≤ 4) (hm : ∀ c ∈ m, c.length ≤ 1000) :
    Calls Tryd.prog 15 #[.slice A m.length c, .int .i64 x, .int .i64 y] w fun e w' => e = .returned (.bool (insB m x y)) ∧ Below w.heap.size w w' := by
  have N0 := Lib.hid (nearR_any x)
  have N1 := Lib.hid (nearR_any y)
  have N2 := Lib.hid (allNearR_any m A c w hC)
  have HI : Hid (insB m x y = (nearB x && (nearB y && (nearL m && decide (wind (allP m) x y ≠ 0))))) := Lib.hid rfl
  have HW := Lib.hid (fun hx hy hn => windingR_any m A c x y w hC hl hm (nearC_L hn) hx hy)
  have HX : Hid (nearB x = true → -8192 ≤ x ∧ x ≤ 8192) := Lib.hid (fun h => by have : near12 x := of_decide_eq_true h; unfold near12 at this; omega)
  have HY : Hid (nearB y = true → -8192 ≤ y ∧ y ≤ 8192) := Lib.hid (fun h => by have : near12 y := of_decide_eq_true h; unfold near12 at this; omega)
  generalize insB m x y = r at *
  generalize nearB x = bx at *
  generalize nearB y = by' at *
  generalize nearL m = bn at *
  clear hC hl hm
  cases bx
  · go_enter Tryd.func15, Tryd.ntmps15
    go_wp2_with fail
    refine (N0.out _).mono ?_
    rintro e w' ⟨rfl, rfl⟩
    go_wp2_with fail
    go_ret
    exact ⟨ret_bool HI.out.symm, Below.refl _ _⟩
  · cases by'
    · go_enter Tryd.func15, Tryd.ntmps15
      go_wp2_with fail
      refine (N0.out _).mono ?_
      rintro e w' ⟨rfl, rfl⟩
      go_wp2_with fail
      refine (N1.out _).mono ?_
      rintro e w' ⟨rfl, rfl⟩
      go_wp2_with fail
      go_ret
      exact ⟨ret_bool HI.out.symm, Below.refl _ _⟩
    · cases bn
      · go_enter Tryd.func15, Tryd.ntmps15
        go_wp2_with fail
        refine (N0.out _).mono ?_
        rintro e w' ⟨rfl, rfl⟩
        go_wp2_with fail
        refine (N1.out _).mono ?_
        rintro e w' ⟨rfl, rfl⟩
        go_wp2_with fail
        refine N2.out.mono ?_
        rintro e w' ⟨rfl, rfl⟩
        go_wp2_with fail
        go_ret
        exact ⟨ret_bool HI.out.symm, Below.refl _ _⟩
      · have HW' := Lib.hid (HW.out (HX.out rfl) (HY.out rfl) rfl)
        rw [windA_eq] at HW'
        generalize wind (allP m) x y = v at *
        go_enter Tryd.func15, Tryd.ntmps15
        go_wp2_with fail
        refine (N0.out _).mono ?_
        rintro e w' ⟨rfl, rfl⟩
        go_wp2_with fail
        refine (N1.out _).mono ?_
        rintro e w' ⟨rfl, rfl⟩
        go_wp2_with fail
        refine N2.out.mono ?_
        rintro e w' ⟨rfl, rfl⟩
        go_wp2_with fail
        refine HW'.out.mono ?_
        rintro e w' ⟨rfl, hb⟩
        have HB := Lib.hid hb
        clear hb
        go_wp2_with fail
        go_ret
        exact ⟨ret_bool (by rw [HI.out]; by_cases h : v = 0 <;> simp [h]), HB.out⟩
end Go.Proofs.YtleljodcdbhifaaDoor
/- The first contours and points of an outline: the law's few. -/
set_option linter.unusedVariables false
set_option linter.unusedSimpArgs false
namespace Go.Proofs.YtleljodcdbhifaaDoor
open Go.RowKit Go.Proofs.YtleljodcdbhifaaDoorW.PrintWords Go.Proofs.YtleljodcdbhifaaDoorW.PrintLast Go.Proofs.YtleljodcdbhifaaDoorW.PrintMore Hy
attribute [local go_sem ↓] Go.wp_at_zero Go.wp_at_succ
attribute [local go_sem] max2_int min2_int max_two min_two
def scFew.T5 : Bool × List (List Nat × List Nat) := (true, [([], []), ([], []), ([], []), ([1, 2], [1, 2]), ([3], [3]), ([], []), ([], []), ([5, 6], [5, 6]), ([7], [7]), ([8], [8]), ([9], [9]), ([4, 10], [4, 10]), ([11], [11]), ([0, 12], [0, 12]), ([13, 13, 0, 1, 2, 3, 4, 5, 6, 7, 8, 9, 10, 11, 12, 13], [0, 13])])
def scFew.B5 : List Nat := [0, 0, 0, 6, 14, 0, 0, 96, 224, 480, 992, 2046, 4094, 8191, 16383]
theorem scFew.tab5 : rtab .any (opsOf Tryd.f13 5) = scFew.T5 := by kernel_rfl
theorem scFew.bits5 : waitsOk scFew.T5.2 scFew.B5 = true := by kernel_rfl
/-- a slice as it lies in a cell -/
structure SV where
  a : Option Addr
  n : Nat
  c : Nat
def SV.enc (s : SV) : Value := .slice s.a s.n s.c
def kSV : Kd SV := Kd.scalar SV.enc (fun _ => rfl)
/-- the slices are read as these rows -/
def Views (w : World) (svs : List SV) (rows : List (List S30)) : Prop := svs.length = rows.length ∧ ∀ (j : Nat) (s : SV) (r : List S30), svs[j]? = some s → rows[j]? = some r → s.n = r.length ∧ r.length ≤ s.c ∧ Kd.C k30 w s.a r.length r
theorem Views.nil (w : World) : Views w [] [] := ⟨rfl, fun j s r h => by simp at h⟩
theorem Views.snoc {w : World} {svs : List SV} {rows : List (List S30)} (h : Views w svs rows) (s : SV) (r : List S30) (h1 : s.n = r.length) (h2 : r.length ≤ s.c) (h3 : Kd.C k30 w s.a r.length r) : Views w (svs ++ [s]) (rows ++ [r]) := by
  refine ⟨by rw [List.length_append, List.length_append, h.1]; rfl, fun j s' r' hs hr => ?_⟩
  rcases Nat.lt_or_ge j svs.length with hj | hj
  · rw [List.getElem?_append_left hj] at hs
    rw [List.getElem?_append_left (by rw [← h.1]; exact hj)] at hr
    exact h.2 j s' r' hs hr
  · rw [List.getElem?_append_right hj] at hs
    rw [List.getElem?_append_right (by rw [← h.1]; exact hj), ← h.1] at hr
    cases he : j - svs.length with
    | zero =>
      rw [he] at hs hr
      obtain rfl : s = s' := by simpa using hs
      obtain rfl : r = r' := by simpa using hr
      exact ⟨h1, h2, h3⟩
    | succ n => rw [he] at hs; simp at hs
theorem C_views {w w' : World} {base : Nat} {svs : List SV} {rows : List (List S30)} {A : Option Addr} {n c : Nat} {t : Nat} {e : Nat} (hR : Kd.R kSV t w' base (fun _ => True) (.slice A n c) svs) (hV : Views w svs rows) (hb : Below w.heap.size w w') (hl : rows.length ≤ 9223372036854775807) : n = rows.length ∧ n ≤ c ∧ Kd.C (Kd.slice e k30) w' A rows.length rows := by
  obtain ⟨h1, h2, h3⟩ := Kd.R_reads' hR
  have hn : n = rows.length := by rw [h1, hV.1]
  refine ⟨hn, h2, rfl, hl, fun h0 => ?_⟩
  obtain ⟨_, _, h4⟩ := h3
  obtain ⟨ad, hA, h5⟩ := h4 (by have := hV.1; omega)
  refine ⟨ad, hA, fun j r hr => ?_⟩
  have hj : j < svs.length := by
    rw [hV.1]
    exact (List.getElem?_eq_some_iff.1 hr).1
  have hs : svs[j]? = some svs[j] := List.getElem?_eq_getElem hj
  obtain ⟨cs, hc1, hc2, hc3⟩ := h5 j _ hs
  obtain ⟨g1, g2, g3⟩ := hV.2 j _ r hs hr
  have hc2' : cs = [SV.enc svs[j]] := hc2
  refine ⟨cs, hc1, ?_, hc3⟩
  refine ⟨svs[j].a, svs[j].c, ?_, g2, Kd.C_below g3 hb⟩
  rw [hc2', SV.enc, g1]
theorem C_take {w : World} {A : Option Addr} {l : List S30} (h : Kd.C k30 w A l.length l) (n : Nat) : Kd.C k30 w A (l.take n).length (l.take n) := by
  obtain ⟨_, h2, h3⟩ := h
  refine ⟨rfl, by rw [List.length_take]; omega, fun h0 => ?_⟩
  rw [List.length_take] at h0
  obtain ⟨ad, hA, h4⟩ := h3 (by omega)
  refine ⟨ad, hA, fun j p hp => h4 j p ?_⟩
  rw [List.getElem?_take] at hp
  split at hp
  · exact hp
  · cases hp
def fewL (l : List (List S30)) : List (List S30) := (l.take 4).map (·.take 12)
theorem few_step (l : List (List S30)) (k : Nat) (h : k < l.length) : (l.take (k + 1)).map (·.take 12) = (l.take k).map (·.take 12) ++ [(l.getD k []).take 12] := by
  rw [List.take_succ_eq_append_getElem h, List.map_append, List.getD_eq_getElem?_getD, List.getElem?_eq_getElem h]; rfl
set_option maxRecDepth 100000 in
set_option maxHeartbeats 4000000 in
theorem few_any (l : List (List S30)) (A : Option Addr) (c : Nat) (w : World) (hC : Kd.C (Kd.slice 30 k30) w A l.length l) :
    Calls Tryd.prog 13 #[.slice A l.length c] w fun e w' => ∃ A' c', e = .returned (.slice A' (fewL l).length c') ∧ (fewL l).length ≤ c' ∧ Kd.C (Kd.slice 30 k30) w' A' (fewL l).length (fewL l) ∧ Below w.heap.size w w' := by
  have hmx : l.length ≤ 9223372036854775807 := hC.2.1
  have HC := Lib.hid hC
  clear hC
  go_enter Tryd.func13, Tryd.ntmps13
  go_wp2_with fail
  go_loopw [3, 4] (fun v i wr => ∃ (k : Nat) (svs : List SV), i = .int .i64 k ∧ k ≤ l.length ∧ k ≤ 4 ∧ svs.length = k ∧ Hid (Below w.heap.size w wr) ∧ Hid (Kd.R kSV 28 wr w.heap.size (fun _ => True) v svs) ∧ Hid (Views w svs ((l.take k).map (·.take 12)))) (fun _ i _ => l.length - (intOf i).toNat)
  case atStart => exact ⟨0, [], rfl, Nat.zero_le _, Nat.zero_le _, rfl, Lib.hid (Below.refl _ _), Lib.hid (Kd.R_nil _ _ _ _ _), Lib.hid (Views.nil w)⟩
  case round =>
    obtain ⟨k, svs, rfl, hk, hk4, hsl, HBr, HVr, HW⟩ := hrel
    obtain ⟨Ax, cx, rfl⟩ := Kd.R_slice HVr.out
    by_cases hlt : k < l.length ∧ k < 4
    · have d1 : decide (k < l.length) = true := decide_eq_true hlt.1
      have d2 : decide ((k : Int) < 4) = true := decide_eq_true (by omega)
      obtain ⟨ad, A0, c0, rfl, h1, hc0, h2⟩ := at_L3 HC.out (k : Int) (by omega) (by omega)
      rw [Int.toNat_natCast] at h1
      have HST := Lib.hid (few_step l k hlt.1)
      rw [show l.getD k [] = rd_L3 l (k : Int) from rfl] at HST
      generalize rd_L3 l (k : Int) = C at *
      obtain ⟨n, hn⟩ : ∃ n, (C.take 12).length = n := ⟨_, rfl⟩
      have hn' : n = min 12 C.length := by rw [← hn, List.length_take]
      have hmC : C.length ≤ 9223372036854775807 := h2.2.1
      have HVW := Lib.hid (HW.out.snoc ⟨A0, n, c0⟩ (C.take 12) hn.symm (by show (C.take 12).length ≤ c0; omega) (C_take h2 12))
      have HT := Lib.hid HST.out
      have H1 := Aside0.mk h1
      have Y0 := Aside0.mk (show (0 : Int) ≤ (k : Int) by omega)
      have Y1 := Aside0.mk (show (k : Int) < (l.length : Int) by omega)
      have YM := Aside0.mk (show (if (12 : Int) < (C.length : Int) then (12 : Int) else (C.length : Int)) = (n : Int) by split <;> omega)
      have Y3 := Aside0.mk (show (0 : Int) ≤ (n : Int) by omega)
      have Y4 := Aside0.mk (show (n : Int) ≤ (c0 : Int) by omega)
      have HL := Aside0.mk (show svs.length ≤ 4 by omega)
      have HK := Lib.hid hlt
      have HSL := Lib.hid hsl
      clear h1 h2 hc0 hn hn' hmC HST hlt hk hk4 hsl
      go_upto_region 5 with fail
      clear d1 d2
      refine start_ (n := 15) (S := fun w' => True) (ds := []) #[false, false, false, false, false, false, false, false, false, false, false, false, false, false, false] (by kernel_rfl) rfl rfl trivial (fun hHeld => ?_)
      refine with_tabW scFew.tab5 scFew.bits5 (fun HT_ HW_ => ?_)
      have HB : Aside0 (Below w.heap.size w wr.drew) := ⟨bdrew HBr.out⟩
      have RV : Aside0 (Kd.R kSV 28 wr.drew w.heap.size (fun _ => True) (.slice Ax svs.length cx) svs) := ⟨Kd.R_below HVr.out (below_drew (Below.refl _ _))⟩
      generalize hwd : wr.drew = w1' at *
      clear hwd
      refine inv_at [0, 1, 2, 3, 4, 5, 6, 7, 8, 9, 10, 11, 12, 13, 14] (fun a0_ b a w' => ∃ (ge : Nat) (v1 : Value) (m12_ : Value) (m14_ : Value), a = putSel a0_ b [(0, 15, .slice Ax svs.length cx), (1, 16, .slice (some ad) l.length c), (2, 17, .int .i64 k), (3, 18, .pointer (some (ad.add k))), (4, 19, .slice A0 C.length c0), (5, 20, .slice (some ad) l.length c), (6, 21, .int .i64 k), (7, 22, .pointer (some (ad.add k))), (8, 23, .slice A0 C.length c0), (9, 24, .int .i64 C.length), (10, 25, .int .i64 n), (11, 26, .slice A0 n c0), (12, 27, m12_), (13, 28, v1), (14, 3, m14_)] ∧ (Below w.heap.size w w') ∧ (b 13 = false → Kd.R kSV 28 w' w.heap.size (fun _ => True) (.slice Ax svs.length cx) svs) ∧ (b 12 = true → b 13 = false → Blk w' ge #[.slice A0 n c0] 28) ∧ (b 13 = true → Kd.R kSV 28 w' w.heap.size (fun _ => True) v1 (svs ++ [⟨A0, n, c0⟩])) ∧ (b 12 = true → (m12_ : Value) = .slice (some ⟨ge, 0, none⟩) 1 1) ∧ (b 14 = true → (m14_ : Value) = v1)) HT_.out HW_.out (by kernel_rfl) (by kernel_rfl) ?_ ?_ ?_
      · exact ⟨0, undef, .bool false, .bool false, by simp only [putSel, Bool.false_eq_true, if_false], HB.out, fun _ => RV.out, fun h_ => absurd h_ (by decide), fun h_ => absurd h_ (by decide), fun h_ => absurd h_ (by decide), fun h_ => absurd h_ (by decide)⟩
      · skip
        clear HB RV
        refine steps_cons ?_ ?_
        · rintro b a w' ⟨ge, v1, m12_, m14_, ha, Q_HB, Q_RV, Q_EB, Q_R1, Q_X12_, Q_X14_⟩ hb_ hon hoff
          refine ⟨_, rfl, fun K hK => ?_⟩
          have e3 : a.tmps[3]? = some (.slice Ax svs.length cx) := by rw [ha]; exact (putSel_not (hoff 14 (by kernel_rfl)) rfl).trans rfl
          replace ha := Aside0.mk ha
          have HB := Aside0.mk Q_HB
          have RV := Aside0.mk (Q_RV (hoff 13 (by kernel_rfl)))
          refine value_ (w1 := w') (v := .slice Ax svs.length cx) (by rfl) rfl ?_ ?_
          · go_simp
            (try simp only [i64_w])
            try rfl
          refine hK.out _ _ ⟨ge, v1, m12_, m14_, (by rw [ha.out]; exact putSel_upk 0 hb_ rfl rfl rfl), Q_HB, Q_RV, Q_EB, fun h0_ => absurd ((hoff 13 (by kernel_rfl)).symm.trans h0_) (by decide), Q_X12_, fun h0_ => absurd ((hoff 14 (by kernel_rfl)).symm.trans h0_) (by decide)⟩
        refine steps_cons ?_ ?_
        · rintro b a w' ⟨ge, v1, m12_, m14_, ha, Q_HB, Q_RV, Q_EB, Q_R1, Q_X12_, Q_X14_⟩ hb_ hon hoff
          refine ⟨_, rfl, fun K hK => ?_⟩
          have e0 : a.tmps[0]? = some (.slice (some ad) l.length c) := by rw [ha]; exact (putSel_off rfl).trans rfl
          replace ha := Aside0.mk ha
          have HB := Aside0.mk Q_HB
          have RV := Aside0.mk (Q_RV (hoff 13 (by kernel_rfl)))
          refine value_ (w1 := w') (v := .slice (some ad) l.length c) (by rfl) rfl ?_ ?_
          · go_simp
            (try simp only [i64_w])
            try rfl
          refine hK.out _ _ ⟨ge, v1, m12_, m14_, (by rw [ha.out]; exact putSel_upk 1 hb_ rfl rfl rfl), Q_HB, Q_RV, fun h0_ _ => absurd ((hoff 12 (by kernel_rfl)).symm.trans h0_) (by decide), fun h0_ => absurd ((hoff 13 (by kernel_rfl)).symm.trans h0_) (by decide), fun h0_ => absurd ((hoff 12 (by kernel_rfl)).symm.trans h0_) (by decide), fun h0_ => absurd ((hoff 14 (by kernel_rfl)).symm.trans h0_) (by decide)⟩
        refine steps_cons ?_ ?_
        · rintro b a w' ⟨ge, v1, m12_, m14_, ha, Q_HB, Q_RV, Q_EB, Q_R1, Q_X12_, Q_X14_⟩ hb_ hon hoff
          refine ⟨_, rfl, fun K hK => ?_⟩
          have e4 : a.tmps[4]? = some (.int .i64 k) := by rw [ha]; exact (putSel_off rfl).trans rfl
          replace ha := Aside0.mk ha
          have HB := Aside0.mk Q_HB
          have RV := Aside0.mk (Q_RV (hoff 13 (by kernel_rfl)))
          refine value_ (w1 := w') (v := .int .i64 k) (by rfl) rfl ?_ ?_
          · go_simp
            (try simp only [i64_w])
            try rfl
          refine hK.out _ _ ⟨ge, v1, m12_, m14_, (by rw [ha.out]; exact putSel_upk 2 hb_ rfl rfl rfl), Q_HB, Q_RV, fun h0_ _ => absurd ((hoff 12 (by kernel_rfl)).symm.trans h0_) (by decide), fun h0_ => absurd ((hoff 13 (by kernel_rfl)).symm.trans h0_) (by decide), fun h0_ => absurd ((hoff 12 (by kernel_rfl)).symm.trans h0_) (by decide), fun h0_ => absurd ((hoff 14 (by kernel_rfl)).symm.trans h0_) (by decide)⟩
        refine steps_cons ?_ ?_
        · rintro b a w' ⟨ge, v1, m12_, m14_, ha, Q_HB, Q_RV, Q_EB, Q_R1, Q_X12_, Q_X14_⟩ hb_ hon hoff
          refine ⟨_, rfl, fun K hK => ?_⟩
          have e16 : a.tmps[16]? = some (.slice (some ad) l.length c) := by rw [ha]; exact putSel_on (e := (1, 16, .slice (some ad) l.length c)) 1 rfl rfl (hon 1 (by kernel_rfl)) rfl
          have e17 : a.tmps[17]? = some (.int .i64 k) := by rw [ha]; exact putSel_on (e := (2, 17, .int .i64 k)) 2 rfl rfl (hon 2 (by kernel_rfl)) rfl
          replace ha := Aside0.mk ha
          have HB := Aside0.mk Q_HB
          have RV := Aside0.mk (Q_RV (hoff 13 (by kernel_rfl)))
          have y0 := Y0.out
          have y1 := Y1.out
          refine value_ (w1 := w') (v := .pointer (some (ad.add k))) (by rfl) rfl ?_ ?_
          · go_simp
            (try simp only [i64_w])
            try rfl
          refine hK.out _ _ ⟨ge, v1, m12_, m14_, (by rw [ha.out]; exact putSel_upk 3 hb_ rfl rfl rfl), Q_HB, Q_RV, fun h0_ _ => absurd ((hoff 12 (by kernel_rfl)).symm.trans h0_) (by decide), fun h0_ => absurd ((hoff 13 (by kernel_rfl)).symm.trans h0_) (by decide), fun h0_ => absurd ((hoff 12 (by kernel_rfl)).symm.trans h0_) (by decide), fun h0_ => absurd ((hoff 14 (by kernel_rfl)).symm.trans h0_) (by decide)⟩
        refine steps_cons ?_ ?_
        · rintro b a w' ⟨ge, v1, m12_, m14_, ha, Q_HB, Q_RV, Q_EB, Q_R1, Q_X12_, Q_X14_⟩ hb_ hon hoff
          refine ⟨_, rfl, fun K hK => ?_⟩
          have e18 : a.tmps[18]? = some (.pointer (some (ad.add k))) := by rw [ha]; exact putSel_on (e := (3, 18, .pointer (some (ad.add k)))) 3 rfl rfl (hon 3 (by kernel_rfl)) rfl
          replace ha := Aside0.mk ha
          have HB := Aside0.mk Q_HB
          have RV := Aside0.mk (Q_RV (hoff 13 (by kernel_rfl)))
          have z1 : w'.cell? (ad.add k) = some (.slice A0 C.length c0) := pw_cell_below HB.out H1.out
          refine value_ (w1 := w') (v := .slice A0 C.length c0) (by rfl) rfl ?_ ?_
          · go_simp
            (try simp only [i64_w])
            try rfl
          refine hK.out _ _ ⟨ge, v1, m12_, m14_, (by rw [ha.out]; exact putSel_upk 4 hb_ rfl rfl rfl), Q_HB, Q_RV, fun h0_ _ => absurd ((hoff 12 (by kernel_rfl)).symm.trans h0_) (by decide), fun h0_ => absurd ((hoff 13 (by kernel_rfl)).symm.trans h0_) (by decide), fun h0_ => absurd ((hoff 12 (by kernel_rfl)).symm.trans h0_) (by decide), fun h0_ => absurd ((hoff 14 (by kernel_rfl)).symm.trans h0_) (by decide)⟩
        refine steps_cons ?_ ?_
        · rintro b a w' ⟨ge, v1, m12_, m14_, ha, Q_HB, Q_RV, Q_EB, Q_R1, Q_X12_, Q_X14_⟩ hb_ hon hoff
          refine ⟨_, rfl, fun K hK => ?_⟩
          have e0 : a.tmps[0]? = some (.slice (some ad) l.length c) := by rw [ha]; exact (putSel_off rfl).trans rfl
          replace ha := Aside0.mk ha
          have HB := Aside0.mk Q_HB
          have RV := Aside0.mk (Q_RV (hoff 13 (by kernel_rfl)))
          refine value_ (w1 := w') (v := .slice (some ad) l.length c) (by rfl) rfl ?_ ?_
          · go_simp
            (try simp only [i64_w])
            try rfl
          refine hK.out _ _ ⟨ge, v1, m12_, m14_, (by rw [ha.out]; exact putSel_upk 5 hb_ rfl rfl rfl), Q_HB, Q_RV, fun h0_ _ => absurd ((hoff 12 (by kernel_rfl)).symm.trans h0_) (by decide), fun h0_ => absurd ((hoff 13 (by kernel_rfl)).symm.trans h0_) (by decide), fun h0_ => absurd ((hoff 12 (by kernel_rfl)).symm.trans h0_) (by decide), fun h0_ => absurd ((hoff 14 (by kernel_rfl)).symm.trans h0_) (by decide)⟩
        refine steps_cons ?_ ?_
        · rintro b a w' ⟨ge, v1, m12_, m14_, ha, Q_HB, Q_RV, Q_EB, Q_R1, Q_X12_, Q_X14_⟩ hb_ hon hoff
          refine ⟨_, rfl, fun K hK => ?_⟩
          have e4 : a.tmps[4]? = some (.int .i64 k) := by rw [ha]; exact (putSel_off rfl).trans rfl
          replace ha := Aside0.mk ha
          have HB := Aside0.mk Q_HB
          have RV := Aside0.mk (Q_RV (hoff 13 (by kernel_rfl)))
          refine value_ (w1 := w') (v := .int .i64 k) (by rfl) rfl ?_ ?_
          · go_simp
            (try simp only [i64_w])
            try rfl
          refine hK.out _ _ ⟨ge, v1, m12_, m14_, (by rw [ha.out]; exact putSel_upk 6 hb_ rfl rfl rfl), Q_HB, Q_RV, fun h0_ _ => absurd ((hoff 12 (by kernel_rfl)).symm.trans h0_) (by decide), fun h0_ => absurd ((hoff 13 (by kernel_rfl)).symm.trans h0_) (by decide), fun h0_ => absurd ((hoff 12 (by kernel_rfl)).symm.trans h0_) (by decide), fun h0_ => absurd ((hoff 14 (by kernel_rfl)).symm.trans h0_) (by decide)⟩
        refine steps_cons ?_ ?_
        · rintro b a w' ⟨ge, v1, m12_, m14_, ha, Q_HB, Q_RV, Q_EB, Q_R1, Q_X12_, Q_X14_⟩ hb_ hon hoff
          refine ⟨_, rfl, fun K hK => ?_⟩
          have e20 : a.tmps[20]? = some (.slice (some ad) l.length c) := by rw [ha]; exact putSel_on (e := (5, 20, .slice (some ad) l.length c)) 5 rfl rfl (hon 5 (by kernel_rfl)) rfl
          have e21 : a.tmps[21]? = some (.int .i64 k) := by rw [ha]; exact putSel_on (e := (6, 21, .int .i64 k)) 6 rfl rfl (hon 6 (by kernel_rfl)) rfl
          replace ha := Aside0.mk ha
          have HB := Aside0.mk Q_HB
          have RV := Aside0.mk (Q_RV (hoff 13 (by kernel_rfl)))
          have y0 := Y0.out
          have y1 := Y1.out
          refine value_ (w1 := w') (v := .pointer (some (ad.add k))) (by rfl) rfl ?_ ?_
          · go_simp
            (try simp only [i64_w])
            try rfl
          refine hK.out _ _ ⟨ge, v1, m12_, m14_, (by rw [ha.out]; exact putSel_upk 7 hb_ rfl rfl rfl), Q_HB, Q_RV, fun h0_ _ => absurd ((hoff 12 (by kernel_rfl)).symm.trans h0_) (by decide), fun h0_ => absurd ((hoff 13 (by kernel_rfl)).symm.trans h0_) (by decide), fun h0_ => absurd ((hoff 12 (by kernel_rfl)).symm.trans h0_) (by decide), fun h0_ => absurd ((hoff 14 (by kernel_rfl)).symm.trans h0_) (by decide)⟩
        refine steps_cons ?_ ?_
        · rintro b a w' ⟨ge, v1, m12_, m14_, ha, Q_HB, Q_RV, Q_EB, Q_R1, Q_X12_, Q_X14_⟩ hb_ hon hoff
          refine ⟨_, rfl, fun K hK => ?_⟩
          have e22 : a.tmps[22]? = some (.pointer (some (ad.add k))) := by rw [ha]; exact putSel_on (e := (7, 22, .pointer (some (ad.add k)))) 7 rfl rfl (hon 7 (by kernel_rfl)) rfl
          replace ha := Aside0.mk ha
          have HB := Aside0.mk Q_HB
          have RV := Aside0.mk (Q_RV (hoff 13 (by kernel_rfl)))
          have z1 : w'.cell? (ad.add k) = some (.slice A0 C.length c0) := pw_cell_below HB.out H1.out
          refine value_ (w1 := w') (v := .slice A0 C.length c0) (by rfl) rfl ?_ ?_
          · go_simp
            (try simp only [i64_w])
            try rfl
          refine hK.out _ _ ⟨ge, v1, m12_, m14_, (by rw [ha.out]; exact putSel_upk 8 hb_ rfl rfl rfl), Q_HB, Q_RV, fun h0_ _ => absurd ((hoff 12 (by kernel_rfl)).symm.trans h0_) (by decide), fun h0_ => absurd ((hoff 13 (by kernel_rfl)).symm.trans h0_) (by decide), fun h0_ => absurd ((hoff 12 (by kernel_rfl)).symm.trans h0_) (by decide), fun h0_ => absurd ((hoff 14 (by kernel_rfl)).symm.trans h0_) (by decide)⟩
        refine steps_cons ?_ ?_
        · rintro b a w' ⟨ge, v1, m12_, m14_, ha, Q_HB, Q_RV, Q_EB, Q_R1, Q_X12_, Q_X14_⟩ hb_ hon hoff
          refine ⟨_, rfl, fun K hK => ?_⟩
          have e23 : a.tmps[23]? = some (.slice A0 C.length c0) := by rw [ha]; exact putSel_on (e := (8, 23, .slice A0 C.length c0)) 8 rfl rfl (hon 8 (by kernel_rfl)) rfl
          replace ha := Aside0.mk ha
          have HB := Aside0.mk Q_HB
          have RV := Aside0.mk (Q_RV (hoff 13 (by kernel_rfl)))
          refine value_ (w1 := w') (v := .int .i64 C.length) (by rfl) rfl ?_ ?_
          · go_simp
            (try simp only [i64_w])
            try rfl
          refine hK.out _ _ ⟨ge, v1, m12_, m14_, (by rw [ha.out]; exact putSel_upk 9 hb_ rfl rfl rfl), Q_HB, Q_RV, fun h0_ _ => absurd ((hoff 12 (by kernel_rfl)).symm.trans h0_) (by decide), fun h0_ => absurd ((hoff 13 (by kernel_rfl)).symm.trans h0_) (by decide), fun h0_ => absurd ((hoff 12 (by kernel_rfl)).symm.trans h0_) (by decide), fun h0_ => absurd ((hoff 14 (by kernel_rfl)).symm.trans h0_) (by decide)⟩
        refine steps_cons ?_ ?_
        · rintro b a w' ⟨ge, v1, m12_, m14_, ha, Q_HB, Q_RV, Q_EB, Q_R1, Q_X12_, Q_X14_⟩ hb_ hon hoff
          refine ⟨_, rfl, fun K hK => ?_⟩
          have e24 : a.tmps[24]? = some (.int .i64 C.length) := by rw [ha]; exact putSel_on (e := (9, 24, .int .i64 C.length)) 9 rfl rfl (hon 9 (by kernel_rfl)) rfl
          replace ha := Aside0.mk ha
          have HB := Aside0.mk Q_HB
          have RV := Aside0.mk (Q_RV (hoff 13 (by kernel_rfl)))
          have y2 := YM.out
          refine value_ (w1 := w') (v := .int .i64 n) (by rfl) rfl ?_ ?_
          · go_simp
            (try simp only [i64_w])
            try rfl
          refine hK.out _ _ ⟨ge, v1, m12_, m14_, (by rw [ha.out]; exact putSel_upk 10 hb_ rfl rfl rfl), Q_HB, Q_RV, fun h0_ _ => absurd ((hoff 12 (by kernel_rfl)).symm.trans h0_) (by decide), fun h0_ => absurd ((hoff 13 (by kernel_rfl)).symm.trans h0_) (by decide), fun h0_ => absurd ((hoff 12 (by kernel_rfl)).symm.trans h0_) (by decide), fun h0_ => absurd ((hoff 14 (by kernel_rfl)).symm.trans h0_) (by decide)⟩
        refine steps_cons ?_ ?_
        · rintro b a w' ⟨ge, v1, m12_, m14_, ha, Q_HB, Q_RV, Q_EB, Q_R1, Q_X12_, Q_X14_⟩ hb_ hon hoff
          refine ⟨_, rfl, fun K hK => ?_⟩
          have e19 : a.tmps[19]? = some (.slice A0 C.length c0) := by rw [ha]; exact putSel_on (e := (4, 19, .slice A0 C.length c0)) 4 rfl rfl (hon 4 (by kernel_rfl)) rfl
          have e25 : a.tmps[25]? = some (.int .i64 n) := by rw [ha]; exact putSel_on (e := (10, 25, .int .i64 n)) 10 rfl rfl (hon 10 (by kernel_rfl)) rfl
          replace ha := Aside0.mk ha
          have HB := Aside0.mk Q_HB
          have RV := Aside0.mk (Q_RV (hoff 13 (by kernel_rfl)))
          have y3 := Y3.out
          have y4 := Y4.out
          refine value_ (w1 := w') (v := .slice A0 n c0) (by rfl) rfl ?_ ?_
          · go_simp
            (try simp only [i64_w])
            try rfl
          refine hK.out _ _ ⟨ge, v1, m12_, m14_, (by rw [ha.out]; exact putSel_upk 11 hb_ rfl rfl rfl), Q_HB, Q_RV, fun h0_ _ => absurd ((hoff 12 (by kernel_rfl)).symm.trans h0_) (by decide), fun h0_ => absurd ((hoff 13 (by kernel_rfl)).symm.trans h0_) (by decide), fun h0_ => absurd ((hoff 12 (by kernel_rfl)).symm.trans h0_) (by decide), fun h0_ => absurd ((hoff 14 (by kernel_rfl)).symm.trans h0_) (by decide)⟩
        refine steps_cons ?_ ?_
        · rintro b a w' ⟨ge, v1, m12_, m14_, ha, Q_HB, Q_RV, Q_EB, Q_R1, Q_X12_, Q_X14_⟩ hb_ hon hoff
          refine ⟨_, rfl, fun K hK => ?_⟩
          have e26 : a.tmps[26]? = some (.slice A0 n c0) := by rw [ha]; exact putSel_on (e := (11, 26, .slice A0 n c0)) 11 rfl rfl (hon 11 (by kernel_rfl)) rfl
          replace ha := Aside0.mk ha
          have HB := Aside0.mk Q_HB
          have RV := Aside0.mk (Q_RV (hoff 13 (by kernel_rfl)))
          refine value_ (w1 := w'.alloc (.cells #[.slice A0 n c0] 28)) (v := .slice (some ⟨w'.heap.size, 0, none⟩) 1 1) (by rfl) rfl ?_ ?_
          · go_simp
          refine hK.out _ _ ⟨w'.heap.size, v1, (.slice (some ⟨w'.heap.size, 0, none⟩) 1 1), m14_, (by rw [ha.out]; exact putSel_upk 12 hb_ rfl rfl rfl), bthen' HB.out (below_alloc (Below.refl _ w') _), fun _ => Kd.R_below RV.out (below_alloc (Below.refl _ w') _), fun _ _ => Blk.new w' _ _ rfl, fun h0_ => absurd ((hoff 13 (by kernel_rfl)).symm.trans h0_) (by decide), fun _ => rfl, fun h0_ => absurd ((hoff 14 (by kernel_rfl)).symm.trans h0_) (by decide)⟩
        refine steps_cons ?_ ?_
        · rintro b a w' ⟨ge, v1, m12_, m14_, ha, Q_HB, Q_RV, Q_EB, Q_R1, Q_X12_, Q_X14_⟩ hb_ hon hoff
          refine ⟨_, rfl, fun K hK => ?_⟩
          have e15 : a.tmps[15]? = some (.slice Ax svs.length cx) := by rw [ha]; exact putSel_on (e := (0, 15, .slice Ax svs.length cx)) 0 rfl rfl (hon 0 (by kernel_rfl)) rfl
          have e27 : a.tmps[27]? = some (m12_) := by rw [ha]; exact putSel_on (e := (12, 27, m12_)) 12 rfl rfl (hon 12 (by kernel_rfl)) rfl
          rw [Q_X12_ (hon 12 (by kernel_rfl))] at e27
          replace ha := Aside0.mk ha
          have HB := Aside0.mk Q_HB
          have RV := Aside0.mk (Q_RV hb_)
          have EB := Aside0.mk (Q_EB (hon 12 (by kernel_rfl)) hb_)
          obtain ⟨vv, w2, hr, o1, o2, o3⟩ := append_kd (d := kSV) 23 28 _ 24 Tryd.underlying23 info28 rfl (by decide) (by omega) RV.out HB.out HB.out.size ge ⟨A0, n, c0⟩ [.slice A0 n c0] EB.out rfl (by have := HL.out; omega)
          refine value_ (w1 := w2) (v := vv) (by rfl) rfl ?_ ?_
          · exact run_append_opU (by rfl) (by assumption) (by assumption) hr
          refine hK.out _ _ ⟨ge, vv, m12_, m14_, (by rw [ha.out]; exact putSel_upk 13 hb_ rfl rfl rfl), o2, fun h0_ => absurd ((up_self b 13).symm.trans h0_) (by decide), fun _ h1_ => absurd ((up_self b 13).symm.trans h1_) (by decide), fun _ => o1, Q_X12_, fun h0_ => absurd ((hoff 14 (by kernel_rfl)).symm.trans h0_) (by decide)⟩
        refine steps_cons ?_ ?_
        · rintro b a w' ⟨ge, v1, m12_, m14_, ha, Q_HB, Q_RV, Q_EB, Q_R1, Q_X12_, Q_X14_⟩ hb_ hon hoff
          refine ⟨_, rfl, fun K hK => ?_⟩
          have e28 : a.tmps[28]? = some (v1) := by rw [ha]; exact putSel_on (e := (13, 28, v1)) 13 rfl rfl (hon 13 (by kernel_rfl)) rfl
          replace ha := Aside0.mk ha
          have HB := Aside0.mk Q_HB
          have R1 := Aside0.mk (Q_R1 (hon 13 (by kernel_rfl)))
          refine value_ (w1 := w') (v := v1) (by rfl) rfl ?_ ?_
          · go_simp
            (try simp only [i64_w])
            try rfl
          refine hK.out _ _ ⟨ge, v1, m12_, (v1), (by rw [ha.out]; exact putSel_upk 14 hb_ rfl rfl rfl), Q_HB, fun h0_ => absurd ((hon 13 (by kernel_rfl)).symm.trans h0_) (by decide), fun _ h1_ => absurd ((hon 13 (by kernel_rfl)).symm.trans h1_) (by decide), Q_R1, Q_X12_, fun _ => rfl⟩
        exact steps_nil
      · rintro b a w' hall ⟨ge, v1, m12_, m14_, ha, Q_HB, Q_RV, Q_EB, Q_R1, Q_X12_, Q_X14_⟩
        clear HB RV
        have hb0_ := hall 0 (by kernel_rfl)
        have hb1_ := hall 1 (by kernel_rfl)
        have hb2_ := hall 2 (by kernel_rfl)
        have hb3_ := hall 3 (by kernel_rfl)
        have hb4_ := hall 4 (by kernel_rfl)
        have hb5_ := hall 5 (by kernel_rfl)
        have hb6_ := hall 6 (by kernel_rfl)
        have hb7_ := hall 7 (by kernel_rfl)
        have hb8_ := hall 8 (by kernel_rfl)
        have hb9_ := hall 9 (by kernel_rfl)
        have hb10_ := hall 10 (by kernel_rfl)
        have hb11_ := hall 11 (by kernel_rfl)
        have hb12_ := hall 12 (by kernel_rfl)
        have hb13_ := hall 13 (by kernel_rfl)
        have hb14_ := hall 14 (by kernel_rfl)
        subst ha
        obtain rfl := Q_X12_ hb12_
        obtain rfl := Q_X14_ hb14_
        simp only [putSel, hb0_, hb1_, hb2_, hb3_, hb4_, hb5_, hb6_, hb7_, hb8_, hb9_, hb10_, hb11_, hb12_, hb13_, hb14_, if_true, Act.put, List.setIfInBounds_toArray, List.set_cons_zero, List.set_cons_succ]
        have HB := Aside0.mk Q_HB
        clear Q_HB
        clear Q_RV
        clear Q_EB
        have R1 := Aside0.mk (Q_R1 hb13_)
        clear Q_R1
        clear hall hb0_ hb1_ hb2_ hb3_ hb4_ hb5_ hb6_ hb7_ hb8_ hb9_ hb10_ hb11_ hb12_ hb13_ hb14_
        have HBn := Lib.hid HB.out
        have HRn := Lib.hid R1.out
        have hk := HK.out
        go_wp2_with fail
        exact ⟨⟨k + 1, svs ++ [⟨A0, n, c0⟩], by go_num, by omega, by omega, by rw [List.length_append, HSL.out]; rfl, HBn, HRn, by rw [HT.out]; exact HVW⟩, by simp [intOf]; omega⟩
    · have he : (l.take k).map (·.take 12) = fewL l := by
        unfold fewL
        rcases Nat.lt_or_ge k 4 with h | h
        · rw [List.take_of_length_le (show l.length ≤ k by omega), List.take_of_length_le (show l.length ≤ 4 by omega)]
        · rw [show k = 4 by omega]
      rw [he] at HW
      have hle : (fewL l).length ≤ 4 := by unfold fewL; rw [List.length_map, List.length_take]; omega
      obtain ⟨r1, r2, r3⟩ := C_views (e := 30) HVr.out HW.out HBr.out (by omega)
      rw [r1] at r2 ⊢
      have R2 := Lib.hid r2
      have R3 := Lib.hid r3
      have hkk : k = 4 ∨ ¬ k < l.length := by omega
      clear he HW r1 r2 r3 HVr hsl
      rcases hkk with hkk | hkk
      · by_cases hd : k < l.length
        · have d1 : decide (k < l.length) = true := decide_eq_true hd
          have d2 : decide ((k : Int) < 4) = false := decide_eq_false (by omega)
          clear hkk hlt
          go_wp2_with fail
          go_ret
          exact ⟨_, _, rfl, R2.out, R3.out, HBr.out⟩
        · have d1 : decide (k < l.length) = false := decide_eq_false hd
          clear hkk hlt
          go_wp2_with fail
          go_ret
          exact ⟨_, _, rfl, R2.out, R3.out, HBr.out⟩
      · have d1 : decide (k < l.length) = false := decide_eq_false hkk
        clear hlt
        go_wp2_with fail
        go_ret
        exact ⟨_, _, rfl, R2.out, R3.out, HBr.out⟩
end Go.Proofs.YtleljodcdbhifaaDoor
/- The law ScanInside. -/
set_option linter.unusedVariables false
set_option linter.unusedSimpArgs false
namespace Go.Proofs.YtleljodcdbhifaaDoor
open Go.RowKit Go.Proofs.YtleljodcdbhifaaDoorW.PrintWords Go.Proofs.YtleljodcdbhifaaDoorW.PrintLast Go.Proofs.YtleljodcdbhifaaDoorW.PrintMore Hy
attribute [local go_sem ↓] Go.wp_at_zero Go.wp_at_succ
def scIns.T16 : Bool × List (List Nat × List Nat) := (true, [([], []), ([], []), ([1], [1]), ([], []), ([2, 3], [2, 3]), ([], []), ([5], [5]), ([0, 4, 6], [0, 4, 6]), ([], []), ([], []), ([9], [9]), ([], []), ([10, 11], [10, 11]), ([], []), ([13], [13]), ([8, 12, 14, 7], [8, 12, 14]), ([7, 15], [7, 15]), ([16, 15], [16]), ([17], [17]), ([17], [17]), ([17], [17]), ([20, 17], [17, 20]), ([18, 19, 21, 17, 17], [17, 18, 19, 21]), ([17], [17]), ([17], [17]), ([17], [17]), ([25, 17], [17, 25]), ([23, 24, 26, 22, 17], [17, 23, 24, 26]), ([22, 27, 17], [17, 22, 27]), ([17, 28], [17, 28])])
def scIns.B16 : List Nat := [0, 0, 2, 0, 14, 0, 32, 127, 0, 0, 512, 0, 3584, 0, 8192, 32767, 65535, 131071, 262143, 262143, 262143, 1310719, 4194303, 262143, 262143, 262143, 33816575, 134217727, 268435455, 536870911]
theorem scIns.tab16 : rtab .any (opsOf Tryd.f3 16) = scIns.T16 := by kernel_rfl
theorem scIns.bits16 : waitsOk scIns.T16.2 scIns.B16 = true := by kernel_rfl
def scIns.T18 : Bool × List (List Nat × List Nat) := (true, [([], []), ([0], [0]), ([1], [1]), ([1], [1]), ([1], [1]), ([2, 3, 4, 1, 1], [1, 2, 3, 4]), ([1], [1]), ([1], [1]), ([1], [1]), ([6, 7, 8, 5, 1], [1, 6, 7, 8]), ([5, 9, 1], [1, 5, 9]), ([1, 10], [1, 10]), ([11, 9], [11]), ([12], [12]), ([12], [12]), ([14, 12], [12, 14]), ([12], [12]), ([16, 12], [12, 16]), ([13, 15, 17, 12, 12], [12, 13, 15, 17]), ([12], [12]), ([12], [12]), ([20, 12], [12, 20]), ([12], [12]), ([22, 12], [12, 22]), ([19, 21, 23, 18, 12], [12, 19, 21, 23]), ([18, 24, 12], [12, 18, 24]), ([12, 25], [12, 25]), ([26, 24], [26]), ([27], [27]), ([27], [27]), ([27], [27]), ([28, 29, 30, 27, 27], [27, 28, 29, 30]), ([27], [27]), ([27], [27]), ([27], [27]), ([32, 33, 34, 31, 27], [27, 32, 33, 34]), ([31, 35, 27], [27, 31, 35]), ([27, 36], [27, 36]), ([37, 35, 0, 1, 2, 3, 4, 5, 6, 7, 8, 9, 10, 11, 12, 13, 14, 15, 16, 17, 18, 19, 20, 21, 22, 23, 24, 25, 26, 27, 28, 29, 30, 31, 32, 33, 34, 35, 36, 37], [37])])
def scIns.B18 : List Nat := [0, 1, 3, 3, 3, 31, 3, 3, 3, 511, 1023, 2047, 4095, 8191, 8191, 24575, 8191, 73727, 262143, 8191, 8191, 1056767, 8191, 4202495, 16777215, 33554431, 67108863, 134217727, 268435455, 268435455, 268435455, 2147483647, 268435455, 268435455, 268435455, 34359738367, 68719476735, 137438953471, 274877906943]
theorem scIns.tab18 : rtab .any (opsOf Tryd.f3 18) = scIns.T18 := by kernel_rfl
theorem scIns.bits18 : waitsOk scIns.T18.2 scIns.B18 = true := by kernel_rfl
theorem few_4 (l : List (List S30)) : (fewL l).length ≤ 4 := by unfold fewL; rw [List.length_map, List.length_take]; omega
theorem few_12 (l : List (List S30)) : ∀ c ∈ fewL l, c.length ≤ 1000 := by
  intro c hc
  unfold fewL at hc
  obtain ⟨d, _, rfl⟩ := List.mem_map.1 hc
  rw [List.length_take]
  omega
set_option maxRecDepth 100000 in
set_option maxHeartbeats 40000000 in
theorem scanInside_walk (A : Option Addr) (c : Nat) (xs : List (List Int)) (A1 : Option Addr) (c1 : Nat) (l : List (List S30)) (ax ay : Int) (w : World) (hT : Tab w) (hC : Kd.C (Kd.slice 3 (Kd.int .i64)) w A xs.length xs) (hc : xs.length ≤ c) (hC1 : Kd.C (Kd.slice 30 k30) w A1 l.length l) (hc1 : l.length ≤ c1) (wa : (Lit.int .i64 ax).wf = true) (wb : (Lit.int .i64 ay).wf = true) :
    Calls Tryd.prog 3 #[.slice A xs.length c, .slice A1 l.length c1, .agg #[.int .i64 ax, .int .i64 ay]] w fun e w' => e = .returned (.bool true) ∧ Below w.heap.size w w' := by
  obtain ⟨m, hm, hk⟩ := made_f xs
  have HM := Lib.hid hm
  have HK := Lib.hid (hk 100 (by decide))
  have HT := Lib.hid hT
  have HC := Lib.hid hC
  have HC1 := Lib.hid hC1
  have HL := Lib.hid hc
  clear hT hC hc hm hk wa wb hC1 hc1
  go_enter Tryd.func3, Tryd.ntmps3
  go_wp2_with fail
  obtain ⟨w1, g5, hw, hg, B1, HB1, _⟩ := new_box w #[.int .i64 ax, .int .i64 ay] 24
  rw [hw, hg]
  clear hw hg
  refine (sanity_any w1 (HT.out.below HB1.out)).mono ?_
  rintro e w2 ⟨rfl, hb⟩
  have HB2 := Lib.hid (bthen' HB1.out hb)
  have B2 := Lib.hid (B1.out.below hb)
  clear hb HB1 B1
  go_wp2_with fail
  refine (abugidaref11_Made.calls 100 A c xs m w2 (Kd.C_below HC.out HB2.out) HL.out HK.out).mono ?_
  rintro e w3 ⟨vm, rfl, hS, hb⟩
  have HB3 := Lib.hid (bthen' HB2.out hb)
  have B3 := Lib.hid (B2.out.below hb)
  obtain ⟨Am, cm, rfl⟩ := Kd.S_slice hS
  have CM3 := Lib.hid (Kd.S_reads' hS).2.2
  have LM := Aside0.mk (Kd.S_reads' hS).2.1
  clear hb HB2 B2 hS HC HL HK
  go_wp2_with fail
  refine (few_any l A1 c1 w3 (Kd.C_below HC1.out HB3.out)).mono ?_
  rintro e w4 ⟨Af, cf, rfl, hLF, hCF, hb⟩
  have HB4 := Lib.hid (bthen' HB3.out hb)
  have B5 := Aside0.mk (B3.out.below hb)
  have CM := Aside0.mk (Kd.C_below CM3.out hb)
  have CF := Aside0.mk hCF
  have LF := Aside0.mk hLF
  have F4 := Aside0.mk (few_4 l)
  have FM := Aside0.mk (few_12 l)
  have M4 := Aside0.mk (show m.length ≤ 4 by have := HM.out.1; omega)
  have MM := Aside0.mk (show ∀ c ∈ m, c.length ≤ 1000 from fun c h => by have := (HM.out.2 c h).1; omega)
  clear hb hCF hLF HB3 B3 CM3 HC1
  have a0 : w4.cell? ⟨g5, 0, none⟩ = some (.int .i64 ax) := B5.out.cell 0
  have a1 : w4.cell? ⟨g5, 1, none⟩ = some (.int .i64 ay) := B5.out.cell 1
  go_wp2_with fail
  obtain ⟨x, hx⟩ : ∃ x, ax.tmod 1000 = x := ⟨_, rfl⟩
  obtain ⟨y, hy⟩ : ∃ y, ay.tmod 1000 = y := ⟨_, rfl⟩
  rw [hx, hy]
  clear hx hy a0 a1
  have hm3 : m.length ≤ 4 := M4.out
  go_loopw [11] (fun i wr => ∃ k : Nat, i = .int .i64 k ∧ k ≤ m.length ∧ Hid (Below w4.heap.size w4 wr)) (fun i _ => m.length - (intOf i).toNat)
  case atStart => exact ⟨0, rfl, Nat.zero_le _, Lib.hid (Below.refl _ _)⟩
  case round =>
    obtain ⟨k, rfl, hk, HBr⟩ := hrel
    by_cases hlt : k < m.length
    · have d1 : decide (k < m.length) = true := decide_eq_true hlt
      obtain ⟨ad, A0, c0, rfl, h1, hc0, h2⟩ := at_L3 CM.out (k : Int) (by omega) (by omega)
      rw [Int.toNat_natCast] at h1
      have hG : GoodC (rd_L3 m (k : Int)) := HM.out.2 _ (getD_in hlt _)
      generalize rd_L3 m (k : Int) = C at *
      have H1 := Lib.hid h1
      have H2 := Lib.hid h2
      have hC7 : C.length ≤ 7 := hG.1
      have HG := Lib.hid hG.2
      have b0 : (0 : Int) ≤ (k : Int) := by omega
      have b1 : (k : Int) < (m.length : Int) := by omega
      clear h1 h2 hG hc0
      generalize wr = wo at *
      go_wp2_with fail
      go_loopw [12] (fun i wr => ∃ j : Nat, i = .int .i64 j ∧ j ≤ C.length ∧ Hid (Below w4.heap.size w4 wr)) (fun i _ => C.length - (intOf i).toNat)
      case atStart => exact ⟨0, rfl, Nat.zero_le _, HBr⟩
      case round =>
        clear HBr
        obtain ⟨j, rfl, hj, HBj⟩ := hrel
        have h1 := pw_cell_below HBj.out H1.out
        by_cases hjl : j < C.length
        · have d2 : decide (j < C.length) = true := decide_eq_true hjl
          obtain ⟨ap, rfl, p0, p1, p2⟩ := pt_cells H2.out j hjl
          have hP : Pt (C.getD j z30) := HG.out _ (getD_in hjl _)
          generalize C.getD j z30 = p at *
          obtain ⟨X, Y, f⟩ := p
          obtain ⟨pX, pY⟩ := hP
          dsimp only at p0 p1 p2 pX pY
          replace p0 := pw_cell_below HBj.out p0
          replace p1 := pw_cell_below HBj.out p1
          replace p2 := pw_cell_below HBj.out p2
          have b2 : (0 : Int) ≤ (j : Int) := by omega
          have b3 : (j : Int) < (C.length : Int) := by omega
          go_upto_region 13 with fail
          obtain ⟨wb, g13, hw, hg, BX', HBx, _⟩ := new_box wr #[.int .i64 X, .int .i64 Y, .bool f] 30
          rw [hw, hg]
          have BX := Aside0.mk BX'.out
          have HBb := Lib.hid (bthen' HBj.out HBx.out)
          clear hw hg BX' HBx HBj p0 p1 p2 h1
          generalize wr = wq at *
          go_wp2_with fail
          go_loopw [14] (fun i wr => ∃ d : Int, i = .int .i64 d ∧ -1 ≤ d ∧ d ≤ 2 ∧ Hid (Below wb.heap.size wb wr)) (fun i _ => (2 - intOf i).toNat)
          case atStart => exact ⟨-1, rfl, by omega, by omega, Lib.hid (Below.refl _ _)⟩
          case round =>
            obtain ⟨d, rfl, hd0, hd1, HBd⟩ := hrel
            by_cases hd : d ≤ 1
            · have d3 : decide (d ≤ 1) = true := decide_eq_true hd
              go_upto_region 16 with fail
              obtain ⟨xd, hxd⟩ : ∃ s, X + d = s := ⟨_, rfl⟩
              have YD := Aside0.mk (show IntKind.i64.wrap (X + d) = xd by rw [← hxd]; exact IntWalk.i64_in _ (by omega))
              obtain ⟨i1, g1⟩ : ∃ b, insB m xd Y = b := ⟨_, rfl⟩
              obtain ⟨i2, g2⟩ : ∃ b, insB m x Y = b := ⟨_, rfl⟩
              have G1 := Aside0.mk g1
              have G2 := Aside0.mk g2
              have HD := Lib.hid (show -1 ≤ d ∧ d ≤ 1 from ⟨hd0, hd⟩)
              have CM4 := CM
              replace CM := Aside0.mk (Kd.C_below CM4.out HBb.out)
              clear g1 g2 hxd hd0 hd1 hd d3 pX pY b2 b3 hjl d2
              refine start_ (n := 30) (S := fun w' => True) (ds := []) #[false, false, false, false, false, false, false, false, false, false, false, false, false, false, false, false, false, false, false, false, false, false, false, false, false, false, false, false, false, false] (by kernel_rfl) rfl rfl trivial (fun hHeld => ?_)
              refine with_tabW scIns.tab16 scIns.bits16 (fun HT_ HW_ => ?_)
              have HB : Aside0 (Below wb.heap.size wb wr.drew) := ⟨bdrew HBd.out⟩
              generalize hwd : wr.drew = w1' at *
              clear hwd
              refine inv_at [0, 1, 2, 3, 4, 5, 6, 7, 8, 9, 10, 11, 12, 13, 14, 15, 16, 17, 18, 19, 20, 21, 22, 23, 24, 25, 26, 27, 28, 29] (fun a0_ b a w' => a = putSel a0_ b [(0, 52, .slice (some ad) m.length cm), (1, 53, .pointer (some ⟨g13, 0, none⟩)), (2, 54, .int .i64 X), (3, 55, .int .i64 d), (4, 56, .int .i64 xd), (5, 57, .pointer (some ⟨g13, 1, none⟩)), (6, 58, .int .i64 Y), (7, 59, .bool i1), (8, 60, .slice (some ad) m.length cm), (9, 61, .pointer (some ⟨g13, 0, none⟩)), (10, 62, .int .i64 X), (11, 63, .int .i64 d), (12, 64, .int .i64 xd), (13, 65, .pointer (some ⟨g13, 1, none⟩)), (14, 66, .int .i64 Y), (15, 67, .bool i1), (16, 68, .bool false), (17, 69, .bool false), (18, 70, .slice (some ad) m.length cm), (19, 71, .int .i64 x), (20, 72, .pointer (some ⟨g13, 1, none⟩)), (21, 73, .int .i64 Y), (22, 74, .bool i2), (23, 75, .slice (some ad) m.length cm), (24, 76, .int .i64 x), (25, 77, .pointer (some ⟨g13, 1, none⟩)), (26, 78, .int .i64 Y), (27, 79, .bool i2), (28, 80, .bool false), (29, 81, .bool false)] ∧ (Below wb.heap.size wb w')) HT_.out HW_.out (by kernel_rfl) (by kernel_rfl) ?_ ?_ ?_
              · exact ⟨by simp only [putSel, Bool.false_eq_true, if_false], HB.out⟩
              · skip
                clear HB
                refine steps_cons ?_ ?_
                · rintro b a w' ⟨ha, Q_HB⟩ hb_ hon hoff
                  refine ⟨_, rfl, fun K hK => ?_⟩
                  have e8 : a.tmps[8]? = some (.slice (some ad) m.length cm) := by rw [ha]; exact (putSel_off rfl).trans rfl
                  replace ha := Aside0.mk ha
                  have HB := Aside0.mk Q_HB
                  refine value_ (w1 := w') (v := .slice (some ad) m.length cm) (by rfl) rfl ?_ ?_
                  · go_simp
                    (try simp only [i64_w])
                    try rfl
                  refine hK.out _ _ ⟨(by rw [ha.out]; exact putSel_upk 0 hb_ rfl rfl rfl), Q_HB⟩
                refine steps_cons ?_ ?_
                · rintro b a w' ⟨ha, Q_HB⟩ hb_ hon hoff
                  refine ⟨_, rfl, fun K hK => ?_⟩
                  have e13 : a.tmps[13]? = some (.pointer (some ⟨g13, 0, none⟩)) := by rw [ha]; exact (putSel_off rfl).trans rfl
                  replace ha := Aside0.mk ha
                  have HB := Aside0.mk Q_HB
                  refine value_ (w1 := w') (v := .pointer (some ⟨g13, 0, none⟩)) (by rfl) rfl ?_ ?_
                  · go_simp
                    (try simp only [i64_w])
                    try rfl
                  refine hK.out _ _ ⟨(by rw [ha.out]; exact putSel_upk 1 hb_ rfl rfl rfl), Q_HB⟩
                refine steps_cons ?_ ?_
                · rintro b a w' ⟨ha, Q_HB⟩ hb_ hon hoff
                  refine ⟨_, rfl, fun K hK => ?_⟩
                  have e53 : a.tmps[53]? = some (.pointer (some ⟨g13, 0, none⟩)) := by rw [ha]; exact putSel_on (e := (1, 53, .pointer (some ⟨g13, 0, none⟩))) 1 rfl rfl (hon 1 (by kernel_rfl)) rfl
                  replace ha := Aside0.mk ha
                  have HB := Aside0.mk Q_HB
                  have z0 : w'.cell? ⟨g13, 0, none⟩ = some (.int .i64 X) := pw_cell_below HB.out (BX.out.cell 0)
                  refine value_ (w1 := w') (v := .int .i64 X) (by rfl) rfl ?_ ?_
                  · go_simp
                    (try simp only [i64_w])
                    try rfl
                  refine hK.out _ _ ⟨(by rw [ha.out]; exact putSel_upk 2 hb_ rfl rfl rfl), Q_HB⟩
                refine steps_cons ?_ ?_
                · rintro b a w' ⟨ha, Q_HB⟩ hb_ hon hoff
                  refine ⟨_, rfl, fun K hK => ?_⟩
                  have e14 : a.tmps[14]? = some (.int .i64 d) := by rw [ha]; exact (putSel_off rfl).trans rfl
                  replace ha := Aside0.mk ha
                  have HB := Aside0.mk Q_HB
                  refine value_ (w1 := w') (v := .int .i64 d) (by rfl) rfl ?_ ?_
                  · go_simp
                    (try simp only [i64_w])
                    try rfl
                  refine hK.out _ _ ⟨(by rw [ha.out]; exact putSel_upk 3 hb_ rfl rfl rfl), Q_HB⟩
                refine steps_cons ?_ ?_
                · rintro b a w' ⟨ha, Q_HB⟩ hb_ hon hoff
                  refine ⟨_, rfl, fun K hK => ?_⟩
                  have e54 : a.tmps[54]? = some (.int .i64 X) := by rw [ha]; exact putSel_on (e := (2, 54, .int .i64 X)) 2 rfl rfl (hon 2 (by kernel_rfl)) rfl
                  have e55 : a.tmps[55]? = some (.int .i64 d) := by rw [ha]; exact putSel_on (e := (3, 55, .int .i64 d)) 3 rfl rfl (hon 3 (by kernel_rfl)) rfl
                  replace ha := Aside0.mk ha
                  have HB := Aside0.mk Q_HB
                  have y1 := YD.out
                  refine value_ (w1 := w') (v := .int .i64 xd) (by rfl) rfl ?_ ?_
                  · go_simp
                    (try simp only [i64_w])
                    try rfl
                  refine hK.out _ _ ⟨(by rw [ha.out]; exact putSel_upk 4 hb_ rfl rfl rfl), Q_HB⟩
                refine steps_cons ?_ ?_
                · rintro b a w' ⟨ha, Q_HB⟩ hb_ hon hoff
                  refine ⟨_, rfl, fun K hK => ?_⟩
                  have e13 : a.tmps[13]? = some (.pointer (some ⟨g13, 0, none⟩)) := by rw [ha]; exact (putSel_off rfl).trans rfl
                  replace ha := Aside0.mk ha
                  have HB := Aside0.mk Q_HB
                  refine value_ (w1 := w') (v := .pointer (some ⟨g13, 1, none⟩)) (by rfl) rfl ?_ ?_
                  · go_simp
                    (try simp only [i64_w])
                    try rfl
                  refine hK.out _ _ ⟨(by rw [ha.out]; exact putSel_upk 5 hb_ rfl rfl rfl), Q_HB⟩
                refine steps_cons ?_ ?_
                · rintro b a w' ⟨ha, Q_HB⟩ hb_ hon hoff
                  refine ⟨_, rfl, fun K hK => ?_⟩
                  have e57 : a.tmps[57]? = some (.pointer (some ⟨g13, 1, none⟩)) := by rw [ha]; exact putSel_on (e := (5, 57, .pointer (some ⟨g13, 1, none⟩))) 5 rfl rfl (hon 5 (by kernel_rfl)) rfl
                  replace ha := Aside0.mk ha
                  have HB := Aside0.mk Q_HB
                  have z1 : w'.cell? ⟨g13, 1, none⟩ = some (.int .i64 Y) := pw_cell_below HB.out (BX.out.cell 1)
                  refine value_ (w1 := w') (v := .int .i64 Y) (by rfl) rfl ?_ ?_
                  · go_simp
                    (try simp only [i64_w])
                    try rfl
                  refine hK.out _ _ ⟨(by rw [ha.out]; exact putSel_upk 6 hb_ rfl rfl rfl), Q_HB⟩
                refine steps_cons ?_ ?_
                · rintro b a w' ⟨ha, Q_HB⟩ hb_ hon hoff
                  refine ⟨_, rfl, fun K hK => ?_⟩
                  have e52 : a.tmps[52]? = some (.slice (some ad) m.length cm) := by rw [ha]; exact putSel_on (e := (0, 52, .slice (some ad) m.length cm)) 0 rfl rfl (hon 0 (by kernel_rfl)) rfl
                  have e56 : a.tmps[56]? = some (.int .i64 xd) := by rw [ha]; exact putSel_on (e := (4, 56, .int .i64 xd)) 4 rfl rfl (hon 4 (by kernel_rfl)) rfl
                  have e58 : a.tmps[58]? = some (.int .i64 Y) := by rw [ha]; exact putSel_on (e := (6, 58, .int .i64 Y)) 6 rfl rfl (hon 6 (by kernel_rfl)) rfl
                  replace ha := Aside0.mk ha
                  have HB := Aside0.mk Q_HB
                  refine call_ 14 #[.slice (some ad) (m).length cm, .int .i64 xd, .int .i64 Y] (by rfl) rfl ?_ ?_
                  · go_simp
                  refine (inP_any m (some ad) cm xd Y w' (Kd.C_below CM.out HB.out) LM.out M4.out MM.out).mono ?_
                  rintro e w2' ⟨rfl, hb⟩
                  rw [G1.out]
                  refine ⟨_, rfl, ?_⟩
                  refine hK.out _ _ ⟨(by rw [ha.out]; exact putSel_upk 7 hb_ rfl rfl rfl), bthen' HB.out hb⟩
                refine steps_cons ?_ ?_
                · rintro b a w' ⟨ha, Q_HB⟩ hb_ hon hoff
                  refine ⟨_, rfl, fun K hK => ?_⟩
                  have e8 : a.tmps[8]? = some (.slice (some ad) m.length cm) := by rw [ha]; exact (putSel_off rfl).trans rfl
                  replace ha := Aside0.mk ha
                  have HB := Aside0.mk Q_HB
                  refine value_ (w1 := w') (v := .slice (some ad) m.length cm) (by rfl) rfl ?_ ?_
                  · go_simp
                    (try simp only [i64_w])
                    try rfl
                  refine hK.out _ _ ⟨(by rw [ha.out]; exact putSel_upk 8 hb_ rfl rfl rfl), Q_HB⟩
                refine steps_cons ?_ ?_
                · rintro b a w' ⟨ha, Q_HB⟩ hb_ hon hoff
                  refine ⟨_, rfl, fun K hK => ?_⟩
                  have e13 : a.tmps[13]? = some (.pointer (some ⟨g13, 0, none⟩)) := by rw [ha]; exact (putSel_off rfl).trans rfl
                  replace ha := Aside0.mk ha
                  have HB := Aside0.mk Q_HB
                  refine value_ (w1 := w') (v := .pointer (some ⟨g13, 0, none⟩)) (by rfl) rfl ?_ ?_
                  · go_simp
                    (try simp only [i64_w])
                    try rfl
                  refine hK.out _ _ ⟨(by rw [ha.out]; exact putSel_upk 9 hb_ rfl rfl rfl), Q_HB⟩
                refine steps_cons ?_ ?_
                · rintro b a w' ⟨ha, Q_HB⟩ hb_ hon hoff
                  refine ⟨_, rfl, fun K hK => ?_⟩
                  have e61 : a.tmps[61]? = some (.pointer (some ⟨g13, 0, none⟩)) := by rw [ha]; exact putSel_on (e := (9, 61, .pointer (some ⟨g13, 0, none⟩))) 9 rfl rfl (hon 9 (by kernel_rfl)) rfl
                  replace ha := Aside0.mk ha
                  have HB := Aside0.mk Q_HB
                  have z0 : w'.cell? ⟨g13, 0, none⟩ = some (.int .i64 X) := pw_cell_below HB.out (BX.out.cell 0)
                  refine value_ (w1 := w') (v := .int .i64 X) (by rfl) rfl ?_ ?_
                  · go_simp
                    (try simp only [i64_w])
                    try rfl
                  refine hK.out _ _ ⟨(by rw [ha.out]; exact putSel_upk 10 hb_ rfl rfl rfl), Q_HB⟩
                refine steps_cons ?_ ?_
                · rintro b a w' ⟨ha, Q_HB⟩ hb_ hon hoff
                  refine ⟨_, rfl, fun K hK => ?_⟩
                  have e14 : a.tmps[14]? = some (.int .i64 d) := by rw [ha]; exact (putSel_off rfl).trans rfl
                  replace ha := Aside0.mk ha
                  have HB := Aside0.mk Q_HB
                  refine value_ (w1 := w') (v := .int .i64 d) (by rfl) rfl ?_ ?_
                  · go_simp
                    (try simp only [i64_w])
                    try rfl
                  refine hK.out _ _ ⟨(by rw [ha.out]; exact putSel_upk 11 hb_ rfl rfl rfl), Q_HB⟩
                refine steps_cons ?_ ?_
                · rintro b a w' ⟨ha, Q_HB⟩ hb_ hon hoff
                  refine ⟨_, rfl, fun K hK => ?_⟩
                  have e62 : a.tmps[62]? = some (.int .i64 X) := by rw [ha]; exact putSel_on (e := (10, 62, .int .i64 X)) 10 rfl rfl (hon 10 (by kernel_rfl)) rfl
                  have e63 : a.tmps[63]? = some (.int .i64 d) := by rw [ha]; exact putSel_on (e := (11, 63, .int .i64 d)) 11 rfl rfl (hon 11 (by kernel_rfl)) rfl
                  replace ha := Aside0.mk ha
                  have HB := Aside0.mk Q_HB
                  have y1 := YD.out
                  refine value_ (w1 := w') (v := .int .i64 xd) (by rfl) rfl ?_ ?_
                  · go_simp
                    (try simp only [i64_w])
                    try rfl
                  refine hK.out _ _ ⟨(by rw [ha.out]; exact putSel_upk 12 hb_ rfl rfl rfl), Q_HB⟩
                refine steps_cons ?_ ?_
                · rintro b a w' ⟨ha, Q_HB⟩ hb_ hon hoff
                  refine ⟨_, rfl, fun K hK => ?_⟩
                  have e13 : a.tmps[13]? = some (.pointer (some ⟨g13, 0, none⟩)) := by rw [ha]; exact (putSel_off rfl).trans rfl
                  replace ha := Aside0.mk ha
                  have HB := Aside0.mk Q_HB
                  refine value_ (w1 := w') (v := .pointer (some ⟨g13, 1, none⟩)) (by rfl) rfl ?_ ?_
                  · go_simp
                    (try simp only [i64_w])
                    try rfl
                  refine hK.out _ _ ⟨(by rw [ha.out]; exact putSel_upk 13 hb_ rfl rfl rfl), Q_HB⟩
                refine steps_cons ?_ ?_
                · rintro b a w' ⟨ha, Q_HB⟩ hb_ hon hoff
                  refine ⟨_, rfl, fun K hK => ?_⟩
                  have e65 : a.tmps[65]? = some (.pointer (some ⟨g13, 1, none⟩)) := by rw [ha]; exact putSel_on (e := (13, 65, .pointer (some ⟨g13, 1, none⟩))) 13 rfl rfl (hon 13 (by kernel_rfl)) rfl
                  replace ha := Aside0.mk ha
                  have HB := Aside0.mk Q_HB
                  have z1 : w'.cell? ⟨g13, 1, none⟩ = some (.int .i64 Y) := pw_cell_below HB.out (BX.out.cell 1)
                  refine value_ (w1 := w') (v := .int .i64 Y) (by rfl) rfl ?_ ?_
                  · go_simp
                    (try simp only [i64_w])
                    try rfl
                  refine hK.out _ _ ⟨(by rw [ha.out]; exact putSel_upk 14 hb_ rfl rfl rfl), Q_HB⟩
                refine steps_cons ?_ ?_
                · rintro b a w' ⟨ha, Q_HB⟩ hb_ hon hoff
                  refine ⟨_, rfl, fun K hK => ?_⟩
                  have e60 : a.tmps[60]? = some (.slice (some ad) m.length cm) := by rw [ha]; exact putSel_on (e := (8, 60, .slice (some ad) m.length cm)) 8 rfl rfl (hon 8 (by kernel_rfl)) rfl
                  have e64 : a.tmps[64]? = some (.int .i64 xd) := by rw [ha]; exact putSel_on (e := (12, 64, .int .i64 xd)) 12 rfl rfl (hon 12 (by kernel_rfl)) rfl
                  have e66 : a.tmps[66]? = some (.int .i64 Y) := by rw [ha]; exact putSel_on (e := (14, 66, .int .i64 Y)) 14 rfl rfl (hon 14 (by kernel_rfl)) rfl
                  replace ha := Aside0.mk ha
                  have HB := Aside0.mk Q_HB
                  refine call_ 15 #[.slice (some ad) (m).length cm, .int .i64 xd, .int .i64 Y] (by rfl) rfl ?_ ?_
                  · go_simp
                  refine (inR_any m (some ad) cm xd Y w' (Kd.C_below CM.out HB.out) M4.out MM.out).mono ?_
                  rintro e w2' ⟨rfl, hb⟩
                  rw [G1.out]
                  refine ⟨_, rfl, ?_⟩
                  refine hK.out _ _ ⟨(by rw [ha.out]; exact putSel_upk 15 hb_ rfl rfl rfl), bthen' HB.out hb⟩
                refine steps_cons ?_ ?_
                · rintro b a w' ⟨ha, Q_HB⟩ hb_ hon hoff
                  refine ⟨_, rfl, fun K hK => ?_⟩
                  have e59 : a.tmps[59]? = some (.bool i1) := by rw [ha]; exact putSel_on (e := (7, 59, .bool i1)) 7 rfl rfl (hon 7 (by kernel_rfl)) rfl
                  have e67 : a.tmps[67]? = some (.bool i1) := by rw [ha]; exact putSel_on (e := (15, 67, .bool i1)) 15 rfl rfl (hon 15 (by kernel_rfl)) rfl
                  replace ha := Aside0.mk ha
                  have HB := Aside0.mk Q_HB
                  have y0 : (i1 != i1) = false := by simp
                  refine value_ (w1 := w') (v := .bool false) (by rfl) rfl ?_ ?_
                  · go_simp
                    (try simp only [i64_w])
                    try rfl
                  refine hK.out _ _ ⟨(by rw [ha.out]; exact putSel_upk 16 hb_ rfl rfl rfl), Q_HB⟩
                refine steps_cons ?_ ?_
                · rintro b a w' ⟨ha, Q_HB⟩ hb_ hon hoff
                  refine ⟨_, rfl, fun K hK => ?_⟩
                  have e68 : a.tmps[68]? = some (.bool false) := by rw [ha]; exact putSel_on (e := (16, 68, .bool false)) 16 rfl rfl (hon 16 (by kernel_rfl)) rfl
                  replace ha := Aside0.mk ha
                  have HB := Aside0.mk Q_HB
                  refine value_ (w1 := w') (v := .bool false) (by rfl) rfl ?_ ?_
                  · go_simp
                    (try simp only [i64_w])
                    try rfl
                  refine hK.out _ _ ⟨(by rw [ha.out]; exact putSel_upk 17 hb_ rfl rfl rfl), Q_HB⟩
                refine steps_cons ?_ ?_
                · rintro b a w' ⟨ha, Q_HB⟩ hb_ hon hoff
                  refine ⟨_, rfl, fun K hK => ?_⟩
                  have e8 : a.tmps[8]? = some (.slice (some ad) m.length cm) := by rw [ha]; exact (putSel_off rfl).trans rfl
                  have e69 : a.tmps[69]? = some (.bool false) := by rw [ha]; exact putSel_on (e := (17, 69, .bool false)) 17 rfl rfl (hon 17 (by kernel_rfl)) rfl
                  replace ha := Aside0.mk ha
                  have HB := Aside0.mk Q_HB
                  refine value_ (w1 := w') (v := .slice (some ad) m.length cm) (wanted_on rfl rfl rfl (e69.trans (by first | rfl | (simp [*]; done)))) rfl ?_ ?_
                  · go_simp
                    (try simp only [i64_w])
                    try rfl
                  refine hK.out _ _ ⟨(by rw [ha.out]; exact putSel_upk 18 hb_ rfl rfl rfl), Q_HB⟩
                refine steps_cons ?_ ?_
                · rintro b a w' ⟨ha, Q_HB⟩ hb_ hon hoff
                  refine ⟨_, rfl, fun K hK => ?_⟩
                  have e9 : a.tmps[9]? = some (.int .i64 x) := by rw [ha]; exact (putSel_off rfl).trans rfl
                  have e69 : a.tmps[69]? = some (.bool false) := by rw [ha]; exact putSel_on (e := (17, 69, .bool false)) 17 rfl rfl (hon 17 (by kernel_rfl)) rfl
                  replace ha := Aside0.mk ha
                  have HB := Aside0.mk Q_HB
                  refine value_ (w1 := w') (v := .int .i64 x) (wanted_on rfl rfl rfl (e69.trans (by first | rfl | (simp [*]; done)))) rfl ?_ ?_
                  · go_simp
                    (try simp only [i64_w])
                    try rfl
                  refine hK.out _ _ ⟨(by rw [ha.out]; exact putSel_upk 19 hb_ rfl rfl rfl), Q_HB⟩
                refine steps_cons ?_ ?_
                · rintro b a w' ⟨ha, Q_HB⟩ hb_ hon hoff
                  refine ⟨_, rfl, fun K hK => ?_⟩
                  have e13 : a.tmps[13]? = some (.pointer (some ⟨g13, 0, none⟩)) := by rw [ha]; exact (putSel_off rfl).trans rfl
                  have e69 : a.tmps[69]? = some (.bool false) := by rw [ha]; exact putSel_on (e := (17, 69, .bool false)) 17 rfl rfl (hon 17 (by kernel_rfl)) rfl
                  replace ha := Aside0.mk ha
                  have HB := Aside0.mk Q_HB
                  refine value_ (w1 := w') (v := .pointer (some ⟨g13, 1, none⟩)) (wanted_on rfl rfl rfl (e69.trans (by first | rfl | (simp [*]; done)))) rfl ?_ ?_
                  · go_simp
                    (try simp only [i64_w])
                    try rfl
                  refine hK.out _ _ ⟨(by rw [ha.out]; exact putSel_upk 20 hb_ rfl rfl rfl), Q_HB⟩
                refine steps_cons ?_ ?_
                · rintro b a w' ⟨ha, Q_HB⟩ hb_ hon hoff
                  refine ⟨_, rfl, fun K hK => ?_⟩
                  have e72 : a.tmps[72]? = some (.pointer (some ⟨g13, 1, none⟩)) := by rw [ha]; exact putSel_on (e := (20, 72, .pointer (some ⟨g13, 1, none⟩))) 20 rfl rfl (hon 20 (by kernel_rfl)) rfl
                  have e69 : a.tmps[69]? = some (.bool false) := by rw [ha]; exact putSel_on (e := (17, 69, .bool false)) 17 rfl rfl (hon 17 (by kernel_rfl)) rfl
                  replace ha := Aside0.mk ha
                  have HB := Aside0.mk Q_HB
                  have z1 : w'.cell? ⟨g13, 1, none⟩ = some (.int .i64 Y) := pw_cell_below HB.out (BX.out.cell 1)
                  refine value_ (w1 := w') (v := .int .i64 Y) (wanted_on rfl rfl rfl (e69.trans (by first | rfl | (simp [*]; done)))) rfl ?_ ?_
                  · go_simp
                    (try simp only [i64_w])
                    try rfl
                  refine hK.out _ _ ⟨(by rw [ha.out]; exact putSel_upk 21 hb_ rfl rfl rfl), Q_HB⟩
                refine steps_cons ?_ ?_
                · rintro b a w' ⟨ha, Q_HB⟩ hb_ hon hoff
                  refine ⟨_, rfl, fun K hK => ?_⟩
                  have e70 : a.tmps[70]? = some (.slice (some ad) m.length cm) := by rw [ha]; exact putSel_on (e := (18, 70, .slice (some ad) m.length cm)) 18 rfl rfl (hon 18 (by kernel_rfl)) rfl
                  have e71 : a.tmps[71]? = some (.int .i64 x) := by rw [ha]; exact putSel_on (e := (19, 71, .int .i64 x)) 19 rfl rfl (hon 19 (by kernel_rfl)) rfl
                  have e73 : a.tmps[73]? = some (.int .i64 Y) := by rw [ha]; exact putSel_on (e := (21, 73, .int .i64 Y)) 21 rfl rfl (hon 21 (by kernel_rfl)) rfl
                  have e69 : a.tmps[69]? = some (.bool false) := by rw [ha]; exact putSel_on (e := (17, 69, .bool false)) 17 rfl rfl (hon 17 (by kernel_rfl)) rfl
                  replace ha := Aside0.mk ha
                  have HB := Aside0.mk Q_HB
                  refine call_ 14 #[.slice (some ad) (m).length cm, .int .i64 x, .int .i64 Y] (wanted_on rfl rfl rfl (e69.trans rfl)) rfl ?_ ?_
                  · go_simp
                  refine (inP_any m (some ad) cm x Y w' (Kd.C_below CM.out HB.out) LM.out M4.out MM.out).mono ?_
                  rintro e w2' ⟨rfl, hb⟩
                  rw [G2.out]
                  refine ⟨_, rfl, ?_⟩
                  refine hK.out _ _ ⟨(by rw [ha.out]; exact putSel_upk 22 hb_ rfl rfl rfl), bthen' HB.out hb⟩
                refine steps_cons ?_ ?_
                · rintro b a w' ⟨ha, Q_HB⟩ hb_ hon hoff
                  refine ⟨_, rfl, fun K hK => ?_⟩
                  have e8 : a.tmps[8]? = some (.slice (some ad) m.length cm) := by rw [ha]; exact (putSel_off rfl).trans rfl
                  have e69 : a.tmps[69]? = some (.bool false) := by rw [ha]; exact putSel_on (e := (17, 69, .bool false)) 17 rfl rfl (hon 17 (by kernel_rfl)) rfl
                  replace ha := Aside0.mk ha
                  have HB := Aside0.mk Q_HB
                  refine value_ (w1 := w') (v := .slice (some ad) m.length cm) (wanted_on rfl rfl rfl (e69.trans (by first | rfl | (simp [*]; done)))) rfl ?_ ?_
                  · go_simp
                    (try simp only [i64_w])
                    try rfl
                  refine hK.out _ _ ⟨(by rw [ha.out]; exact putSel_upk 23 hb_ rfl rfl rfl), Q_HB⟩
                refine steps_cons ?_ ?_
                · rintro b a w' ⟨ha, Q_HB⟩ hb_ hon hoff
                  refine ⟨_, rfl, fun K hK => ?_⟩
                  have e9 : a.tmps[9]? = some (.int .i64 x) := by rw [ha]; exact (putSel_off rfl).trans rfl
                  have e69 : a.tmps[69]? = some (.bool false) := by rw [ha]; exact putSel_on (e := (17, 69, .bool false)) 17 rfl rfl (hon 17 (by kernel_rfl)) rfl
                  replace ha := Aside0.mk ha
                  have HB := Aside0.mk Q_HB
                  refine value_ (w1 := w') (v := .int .i64 x) (wanted_on rfl rfl rfl (e69.trans (by first | rfl | (simp [*]; done)))) rfl ?_ ?_
                  · go_simp
                    (try simp only [i64_w])
                    try rfl
                  refine hK.out _ _ ⟨(by rw [ha.out]; exact putSel_upk 24 hb_ rfl rfl rfl), Q_HB⟩
                refine steps_cons ?_ ?_
                · rintro b a w' ⟨ha, Q_HB⟩ hb_ hon hoff
                  refine ⟨_, rfl, fun K hK => ?_⟩
                  have e13 : a.tmps[13]? = some (.pointer (some ⟨g13, 0, none⟩)) := by rw [ha]; exact (putSel_off rfl).trans rfl
                  have e69 : a.tmps[69]? = some (.bool false) := by rw [ha]; exact putSel_on (e := (17, 69, .bool false)) 17 rfl rfl (hon 17 (by kernel_rfl)) rfl
                  replace ha := Aside0.mk ha
                  have HB := Aside0.mk Q_HB
                  refine value_ (w1 := w') (v := .pointer (some ⟨g13, 1, none⟩)) (wanted_on rfl rfl rfl (e69.trans (by first | rfl | (simp [*]; done)))) rfl ?_ ?_
                  · go_simp
                    (try simp only [i64_w])
                    try rfl
                  refine hK.out _ _ ⟨(by rw [ha.out]; exact putSel_upk 25 hb_ rfl rfl rfl), Q_HB⟩
                refine steps_cons ?_ ?_
                · rintro b a w' ⟨ha, Q_HB⟩ hb_ hon hoff
                  refine ⟨_, rfl, fun K hK => ?_⟩
                  have e77 : a.tmps[77]? = some (.pointer (some ⟨g13, 1, none⟩)) := by rw [ha]; exact putSel_on (e := (25, 77, .pointer (some ⟨g13, 1, none⟩))) 25 rfl rfl (hon 25 (by kernel_rfl)) rfl
                  have e69 : a.tmps[69]? = some (.bool false) := by rw [ha]; exact putSel_on (e := (17, 69, .bool false)) 17 rfl rfl (hon 17 (by kernel_rfl)) rfl
                  replace ha := Aside0.mk ha
                  have HB := Aside0.mk Q_HB
                  have z1 : w'.cell? ⟨g13, 1, none⟩ = some (.int .i64 Y) := pw_cell_below HB.out (BX.out.cell 1)
                  refine value_ (w1 := w') (v := .int .i64 Y) (wanted_on rfl rfl rfl (e69.trans (by first | rfl | (simp [*]; done)))) rfl ?_ ?_
                  · go_simp
                    (try simp only [i64_w])
                    try rfl
                  refine hK.out _ _ ⟨(by rw [ha.out]; exact putSel_upk 26 hb_ rfl rfl rfl), Q_HB⟩
                refine steps_cons ?_ ?_
                · rintro b a w' ⟨ha, Q_HB⟩ hb_ hon hoff
                  refine ⟨_, rfl, fun K hK => ?_⟩
                  have e75 : a.tmps[75]? = some (.slice (some ad) m.length cm) := by rw [ha]; exact putSel_on (e := (23, 75, .slice (some ad) m.length cm)) 23 rfl rfl (hon 23 (by kernel_rfl)) rfl
                  have e76 : a.tmps[76]? = some (.int .i64 x) := by rw [ha]; exact putSel_on (e := (24, 76, .int .i64 x)) 24 rfl rfl (hon 24 (by kernel_rfl)) rfl
                  have e78 : a.tmps[78]? = some (.int .i64 Y) := by rw [ha]; exact putSel_on (e := (26, 78, .int .i64 Y)) 26 rfl rfl (hon 26 (by kernel_rfl)) rfl
                  have e69 : a.tmps[69]? = some (.bool false) := by rw [ha]; exact putSel_on (e := (17, 69, .bool false)) 17 rfl rfl (hon 17 (by kernel_rfl)) rfl
                  replace ha := Aside0.mk ha
                  have HB := Aside0.mk Q_HB
                  refine call_ 15 #[.slice (some ad) (m).length cm, .int .i64 x, .int .i64 Y] (wanted_on rfl rfl rfl (e69.trans rfl)) rfl ?_ ?_
                  · go_simp
                  refine (inR_any m (some ad) cm x Y w' (Kd.C_below CM.out HB.out) M4.out MM.out).mono ?_
                  rintro e w2' ⟨rfl, hb⟩
                  rw [G2.out]
                  refine ⟨_, rfl, ?_⟩
                  refine hK.out _ _ ⟨(by rw [ha.out]; exact putSel_upk 27 hb_ rfl rfl rfl), bthen' HB.out hb⟩
                refine steps_cons ?_ ?_
                · rintro b a w' ⟨ha, Q_HB⟩ hb_ hon hoff
                  refine ⟨_, rfl, fun K hK => ?_⟩
                  have e74 : a.tmps[74]? = some (.bool i2) := by rw [ha]; exact putSel_on (e := (22, 74, .bool i2)) 22 rfl rfl (hon 22 (by kernel_rfl)) rfl
                  have e79 : a.tmps[79]? = some (.bool i2) := by rw [ha]; exact putSel_on (e := (27, 79, .bool i2)) 27 rfl rfl (hon 27 (by kernel_rfl)) rfl
                  have e69 : a.tmps[69]? = some (.bool false) := by rw [ha]; exact putSel_on (e := (17, 69, .bool false)) 17 rfl rfl (hon 17 (by kernel_rfl)) rfl
                  replace ha := Aside0.mk ha
                  have HB := Aside0.mk Q_HB
                  have y0 : (i2 != i2) = false := by simp
                  refine value_ (w1 := w') (v := .bool false) (wanted_on rfl rfl rfl (e69.trans (by first | rfl | (simp [*]; done)))) rfl ?_ ?_
                  · go_simp
                    (try simp only [i64_w])
                    try rfl
                  refine hK.out _ _ ⟨(by rw [ha.out]; exact putSel_upk 28 hb_ rfl rfl rfl), Q_HB⟩
                refine steps_cons ?_ ?_
                · rintro b a w' ⟨ha, Q_HB⟩ hb_ hon hoff
                  refine ⟨_, rfl, fun K hK => ?_⟩
                  have e69 : a.tmps[69]? = some (.bool false) := by rw [ha]; exact putSel_on (e := (17, 69, .bool false)) 17 rfl rfl (hon 17 (by kernel_rfl)) rfl
                  have e80 : a.tmps[80]? = some (.bool false) := by rw [ha]; exact putSel_on (e := (28, 80, .bool false)) 28 rfl rfl (hon 28 (by kernel_rfl)) rfl
                  replace ha := Aside0.mk ha
                  have HB := Aside0.mk Q_HB
                  refine value_ (w1 := w') (v := .bool false) (by rfl) rfl ?_ ?_
                  · go_simp
                    (try simp only [i64_w])
                    try rfl
                  refine hK.out _ _ ⟨(by rw [ha.out]; exact putSel_upk 29 hb_ rfl rfl rfl), Q_HB⟩
                exact steps_nil
              · rintro b a w' hall ⟨ha, Q_HB⟩
                clear HB
                have hb0_ := hall 0 (by kernel_rfl)
                have hb1_ := hall 1 (by kernel_rfl)
                have hb2_ := hall 2 (by kernel_rfl)
                have hb3_ := hall 3 (by kernel_rfl)
                have hb4_ := hall 4 (by kernel_rfl)
                have hb5_ := hall 5 (by kernel_rfl)
                have hb6_ := hall 6 (by kernel_rfl)
                have hb7_ := hall 7 (by kernel_rfl)
                have hb8_ := hall 8 (by kernel_rfl)
                have hb9_ := hall 9 (by kernel_rfl)
                have hb10_ := hall 10 (by kernel_rfl)
                have hb11_ := hall 11 (by kernel_rfl)
                have hb12_ := hall 12 (by kernel_rfl)
                have hb13_ := hall 13 (by kernel_rfl)
                have hb14_ := hall 14 (by kernel_rfl)
                have hb15_ := hall 15 (by kernel_rfl)
                have hb16_ := hall 16 (by kernel_rfl)
                have hb17_ := hall 17 (by kernel_rfl)
                have hb18_ := hall 18 (by kernel_rfl)
                have hb19_ := hall 19 (by kernel_rfl)
                have hb20_ := hall 20 (by kernel_rfl)
                have hb21_ := hall 21 (by kernel_rfl)
                have hb22_ := hall 22 (by kernel_rfl)
                have hb23_ := hall 23 (by kernel_rfl)
                have hb24_ := hall 24 (by kernel_rfl)
                have hb25_ := hall 25 (by kernel_rfl)
                have hb26_ := hall 26 (by kernel_rfl)
                have hb27_ := hall 27 (by kernel_rfl)
                have hb28_ := hall 28 (by kernel_rfl)
                have hb29_ := hall 29 (by kernel_rfl)
                subst ha
                simp only [putSel, hb0_, hb1_, hb2_, hb3_, hb4_, hb5_, hb6_, hb7_, hb8_, hb9_, hb10_, hb11_, hb12_, hb13_, hb14_, hb15_, hb16_, hb17_, hb18_, hb19_, hb20_, hb21_, hb22_, hb23_, hb24_, hb25_, hb26_, hb27_, hb28_, hb29_, if_true, Act.put, List.setIfInBounds_toArray, List.set_cons_zero, List.set_cons_succ]
                have HB := Aside0.mk Q_HB
                clear Q_HB
                clear hall hb0_ hb1_ hb2_ hb3_ hb4_ hb5_ hb6_ hb7_ hb8_ hb9_ hb10_ hb11_ hb12_ hb13_ hb14_ hb15_ hb16_ hb17_ hb18_ hb19_ hb20_ hb21_ hb22_ hb23_ hb24_ hb25_ hb26_ hb27_ hb28_ hb29_
                have HBe := Lib.hid HB.out
                have hd := HD.out
                go_wp2_with fail
                exact ⟨⟨d + 1, rfl, by omega, by omega, HBe⟩, by simp [intOf]; omega⟩
            · have d3 : decide (d ≤ 1) = false := decide_eq_false hd
              clear hd
              have HBz := Lib.hid (bthen' HBb.out HBd.out)
              go_wp2_with fail
              exact ⟨⟨j + 1, by go_num, by omega, HBz⟩, by simp [intOf]; omega⟩
        · have d2 : decide (j < C.length) = false := decide_eq_false hjl
          go_wp2_with fail
          exact ⟨⟨k + 1, by go_num, by omega, HBj⟩, by simp [intOf]; omega⟩
    · have d1 : decide (k < m.length) = false := decide_eq_false hlt
      obtain ⟨i3, g3⟩ : ∃ b, insB m x y = b := ⟨_, rfl⟩
      obtain ⟨i4, g4⟩ : ∃ b, insB (fewL l) ax ay = b := ⟨_, rfl⟩
      obtain ⟨i5, g5'⟩ : ∃ b, insB (fewL l) x y = b := ⟨_, rfl⟩
      have G3 := Aside0.mk g3
      have G4 := Aside0.mk g4
      have G5 := Aside0.mk g5'
      clear g3 g4 g5' hlt hk hm3
      go_upto_region 18 with fail
      clear d1
      refine start_ (n := 39) (S := fun w' => True) (ds := []) #[false, false, false, false, false, false, false, false, false, false, false, false, false, false, false, false, false, false, false, false, false, false, false, false, false, false, false, false, false, false, false, false, false, false, false, false, false, false, false] (by kernel_rfl) rfl rfl trivial (fun hHeld => ?_)
      refine with_tabW scIns.tab18 scIns.bits18 (fun HT_ HW_ => ?_)
      have HB : Aside0 (Below w4.heap.size w4 wr.drew) := ⟨bdrew HBr.out⟩
      generalize hwd : wr.drew = w1' at *
      clear hwd
      refine inv_at [0, 1, 2, 3, 4, 5, 6, 7, 8, 9, 10, 11, 12, 13, 14, 15, 16, 17, 18, 19, 20, 21, 22, 23, 24, 25, 26, 27, 28, 29, 30, 31, 32, 33, 34, 35, 36, 37, 38] (fun a0_ b a w' => a = putSel a0_ b [(0, 82, .bool true), (1, 83, .bool true), (2, 84, .slice Am m.length cm), (3, 85, .int .i64 x), (4, 86, .int .i64 y), (5, 87, .bool i3), (6, 88, .slice Am m.length cm), (7, 89, .int .i64 x), (8, 90, .int .i64 y), (9, 91, .bool i3), (10, 92, .bool true), (11, 93, .bool true), (12, 94, .bool true), (13, 95, .slice Af (fewL l).length cf), (14, 96, .pointer (some ⟨g5, 0, none⟩)), (15, 97, .int .i64 ax), (16, 98, .pointer (some ⟨g5, 1, none⟩)), (17, 99, .int .i64 ay), (18, 100, .bool i4), (19, 101, .slice Af (fewL l).length cf), (20, 102, .pointer (some ⟨g5, 0, none⟩)), (21, 103, .int .i64 ax), (22, 104, .pointer (some ⟨g5, 1, none⟩)), (23, 105, .int .i64 ay), (24, 106, .bool i4), (25, 107, .bool true), (26, 108, .bool true), (27, 109, .bool true), (28, 110, .slice Af (fewL l).length cf), (29, 111, .int .i64 x), (30, 112, .int .i64 y), (31, 113, .bool i5), (32, 114, .slice Af (fewL l).length cf), (33, 115, .int .i64 x), (34, 116, .int .i64 y), (35, 117, .bool i5), (36, 118, .bool true), (37, 119, .bool true), (38, 6, .bool true)] ∧ (Below w4.heap.size w4 w')) HT_.out HW_.out (by kernel_rfl) (by kernel_rfl) ?_ ?_ ?_
      · exact ⟨by simp only [putSel, Bool.false_eq_true, if_false], HB.out⟩
      · skip
        clear HB
        refine steps_cons ?_ ?_
        · rintro b a w' ⟨ha, Q_HB⟩ hb_ hon hoff
          refine ⟨_, rfl, fun K hK => ?_⟩
          have e7 : a.tmps[7]? = some (.bool true) := by rw [ha]; exact (putSel_off rfl).trans rfl
          replace ha := Aside0.mk ha
          have HB := Aside0.mk Q_HB
          refine value_ (w1 := w') (v := .bool true) (by rfl) rfl ?_ ?_
          · go_simp
            (try simp only [i64_w])
            try rfl
          refine hK.out _ _ ⟨(by rw [ha.out]; exact putSel_upk 0 hb_ rfl rfl rfl), Q_HB⟩
        refine steps_cons ?_ ?_
        · rintro b a w' ⟨ha, Q_HB⟩ hb_ hon hoff
          refine ⟨_, rfl, fun K hK => ?_⟩
          have e82 : a.tmps[82]? = some (.bool true) := by rw [ha]; exact putSel_on (e := (0, 82, .bool true)) 0 rfl rfl (hon 0 (by kernel_rfl)) rfl
          replace ha := Aside0.mk ha
          have HB := Aside0.mk Q_HB
          refine value_ (w1 := w') (v := .bool true) (by rfl) rfl ?_ ?_
          · go_simp
            (try simp only [i64_w])
            try rfl
          refine hK.out _ _ ⟨(by rw [ha.out]; exact putSel_upk 1 hb_ rfl rfl rfl), Q_HB⟩
        refine steps_cons ?_ ?_
        · rintro b a w' ⟨ha, Q_HB⟩ hb_ hon hoff
          refine ⟨_, rfl, fun K hK => ?_⟩
          have e8 : a.tmps[8]? = some (.slice Am m.length cm) := by rw [ha]; exact (putSel_off rfl).trans rfl
          have e83 : a.tmps[83]? = some (.bool true) := by rw [ha]; exact putSel_on (e := (1, 83, .bool true)) 1 rfl rfl (hon 1 (by kernel_rfl)) rfl
          replace ha := Aside0.mk ha
          have HB := Aside0.mk Q_HB
          refine value_ (w1 := w') (v := .slice Am m.length cm) (wanted_on rfl rfl rfl (e83.trans (by first | rfl | (simp [*]; done)))) rfl ?_ ?_
          · go_simp
            (try simp only [i64_w])
            try rfl
          refine hK.out _ _ ⟨(by rw [ha.out]; exact putSel_upk 2 hb_ rfl rfl rfl), Q_HB⟩
        refine steps_cons ?_ ?_
        · rintro b a w' ⟨ha, Q_HB⟩ hb_ hon hoff
          refine ⟨_, rfl, fun K hK => ?_⟩
          have e9 : a.tmps[9]? = some (.int .i64 x) := by rw [ha]; exact (putSel_off rfl).trans rfl
          have e83 : a.tmps[83]? = some (.bool true) := by rw [ha]; exact putSel_on (e := (1, 83, .bool true)) 1 rfl rfl (hon 1 (by kernel_rfl)) rfl
          replace ha := Aside0.mk ha
          have HB := Aside0.mk Q_HB
          refine value_ (w1 := w') (v := .int .i64 x) (wanted_on rfl rfl rfl (e83.trans (by first | rfl | (simp [*]; done)))) rfl ?_ ?_
          · go_simp
            (try simp only [i64_w])
            try rfl
          refine hK.out _ _ ⟨(by rw [ha.out]; exact putSel_upk 3 hb_ rfl rfl rfl), Q_HB⟩
        refine steps_cons ?_ ?_
        · rintro b a w' ⟨ha, Q_HB⟩ hb_ hon hoff
          refine ⟨_, rfl, fun K hK => ?_⟩
          have e10 : a.tmps[10]? = some (.int .i64 y) := by rw [ha]; exact (putSel_off rfl).trans rfl
          have e83 : a.tmps[83]? = some (.bool true) := by rw [ha]; exact putSel_on (e := (1, 83, .bool true)) 1 rfl rfl (hon 1 (by kernel_rfl)) rfl
          replace ha := Aside0.mk ha
          have HB := Aside0.mk Q_HB
          refine value_ (w1 := w') (v := .int .i64 y) (wanted_on rfl rfl rfl (e83.trans (by first | rfl | (simp [*]; done)))) rfl ?_ ?_
          · go_simp
            (try simp only [i64_w])
            try rfl
          refine hK.out _ _ ⟨(by rw [ha.out]; exact putSel_upk 4 hb_ rfl rfl rfl), Q_HB⟩
        refine steps_cons ?_ ?_
        · rintro b a w' ⟨ha, Q_HB⟩ hb_ hon hoff
          refine ⟨_, rfl, fun K hK => ?_⟩
          have e84 : a.tmps[84]? = some (.slice Am m.length cm) := by rw [ha]; exact putSel_on (e := (2, 84, .slice Am m.length cm)) 2 rfl rfl (hon 2 (by kernel_rfl)) rfl
          have e85 : a.tmps[85]? = some (.int .i64 x) := by rw [ha]; exact putSel_on (e := (3, 85, .int .i64 x)) 3 rfl rfl (hon 3 (by kernel_rfl)) rfl
          have e86 : a.tmps[86]? = some (.int .i64 y) := by rw [ha]; exact putSel_on (e := (4, 86, .int .i64 y)) 4 rfl rfl (hon 4 (by kernel_rfl)) rfl
          have e83 : a.tmps[83]? = some (.bool true) := by rw [ha]; exact putSel_on (e := (1, 83, .bool true)) 1 rfl rfl (hon 1 (by kernel_rfl)) rfl
          replace ha := Aside0.mk ha
          have HB := Aside0.mk Q_HB
          refine call_ 14 #[.slice Am (m).length cm, .int .i64 x, .int .i64 y] (wanted_on rfl rfl rfl (e83.trans rfl)) rfl ?_ ?_
          · go_simp
          refine (inP_any m Am cm x y w' (Kd.C_below CM.out HB.out) LM.out M4.out MM.out).mono ?_
          rintro e w2' ⟨rfl, hb⟩
          rw [G3.out]
          refine ⟨_, rfl, ?_⟩
          refine hK.out _ _ ⟨(by rw [ha.out]; exact putSel_upk 5 hb_ rfl rfl rfl), bthen' HB.out hb⟩
        refine steps_cons ?_ ?_
        · rintro b a w' ⟨ha, Q_HB⟩ hb_ hon hoff
          refine ⟨_, rfl, fun K hK => ?_⟩
          have e8 : a.tmps[8]? = some (.slice Am m.length cm) := by rw [ha]; exact (putSel_off rfl).trans rfl
          have e83 : a.tmps[83]? = some (.bool true) := by rw [ha]; exact putSel_on (e := (1, 83, .bool true)) 1 rfl rfl (hon 1 (by kernel_rfl)) rfl
          replace ha := Aside0.mk ha
          have HB := Aside0.mk Q_HB
          refine value_ (w1 := w') (v := .slice Am m.length cm) (wanted_on rfl rfl rfl (e83.trans (by first | rfl | (simp [*]; done)))) rfl ?_ ?_
          · go_simp
            (try simp only [i64_w])
            try rfl
          refine hK.out _ _ ⟨(by rw [ha.out]; exact putSel_upk 6 hb_ rfl rfl rfl), Q_HB⟩
        refine steps_cons ?_ ?_
        · rintro b a w' ⟨ha, Q_HB⟩ hb_ hon hoff
          refine ⟨_, rfl, fun K hK => ?_⟩
          have e9 : a.tmps[9]? = some (.int .i64 x) := by rw [ha]; exact (putSel_off rfl).trans rfl
          have e83 : a.tmps[83]? = some (.bool true) := by rw [ha]; exact putSel_on (e := (1, 83, .bool true)) 1 rfl rfl (hon 1 (by kernel_rfl)) rfl
          replace ha := Aside0.mk ha
          have HB := Aside0.mk Q_HB
          refine value_ (w1 := w') (v := .int .i64 x) (wanted_on rfl rfl rfl (e83.trans (by first | rfl | (simp [*]; done)))) rfl ?_ ?_
          · go_simp
            (try simp only [i64_w])
            try rfl
          refine hK.out _ _ ⟨(by rw [ha.out]; exact putSel_upk 7 hb_ rfl rfl rfl), Q_HB⟩
        refine steps_cons ?_ ?_
        · rintro b a w' ⟨ha, Q_HB⟩ hb_ hon hoff
          refine ⟨_, rfl, fun K hK => ?_⟩
          have e10 : a.tmps[10]? = some (.int .i64 y) := by rw [ha]; exact (putSel_off rfl).trans rfl
          have e83 : a.tmps[83]? = some (.bool true) := by rw [ha]; exact putSel_on (e := (1, 83, .bool true)) 1 rfl rfl (hon 1 (by kernel_rfl)) rfl
          replace ha := Aside0.mk ha
          have HB := Aside0.mk Q_HB
          refine value_ (w1 := w') (v := .int .i64 y) (wanted_on rfl rfl rfl (e83.trans (by first | rfl | (simp [*]; done)))) rfl ?_ ?_
          · go_simp
            (try simp only [i64_w])
            try rfl
          refine hK.out _ _ ⟨(by rw [ha.out]; exact putSel_upk 8 hb_ rfl rfl rfl), Q_HB⟩
        refine steps_cons ?_ ?_
        · rintro b a w' ⟨ha, Q_HB⟩ hb_ hon hoff
          refine ⟨_, rfl, fun K hK => ?_⟩
          have e88 : a.tmps[88]? = some (.slice Am m.length cm) := by rw [ha]; exact putSel_on (e := (6, 88, .slice Am m.length cm)) 6 rfl rfl (hon 6 (by kernel_rfl)) rfl
          have e89 : a.tmps[89]? = some (.int .i64 x) := by rw [ha]; exact putSel_on (e := (7, 89, .int .i64 x)) 7 rfl rfl (hon 7 (by kernel_rfl)) rfl
          have e90 : a.tmps[90]? = some (.int .i64 y) := by rw [ha]; exact putSel_on (e := (8, 90, .int .i64 y)) 8 rfl rfl (hon 8 (by kernel_rfl)) rfl
          have e83 : a.tmps[83]? = some (.bool true) := by rw [ha]; exact putSel_on (e := (1, 83, .bool true)) 1 rfl rfl (hon 1 (by kernel_rfl)) rfl
          replace ha := Aside0.mk ha
          have HB := Aside0.mk Q_HB
          refine call_ 15 #[.slice Am (m).length cm, .int .i64 x, .int .i64 y] (wanted_on rfl rfl rfl (e83.trans rfl)) rfl ?_ ?_
          · go_simp
          refine (inR_any m Am cm x y w' (Kd.C_below CM.out HB.out) M4.out MM.out).mono ?_
          rintro e w2' ⟨rfl, hb⟩
          rw [G3.out]
          refine ⟨_, rfl, ?_⟩
          refine hK.out _ _ ⟨(by rw [ha.out]; exact putSel_upk 9 hb_ rfl rfl rfl), bthen' HB.out hb⟩
        refine steps_cons ?_ ?_
        · rintro b a w' ⟨ha, Q_HB⟩ hb_ hon hoff
          refine ⟨_, rfl, fun K hK => ?_⟩
          have e87 : a.tmps[87]? = some (.bool i3) := by rw [ha]; exact putSel_on (e := (5, 87, .bool i3)) 5 rfl rfl (hon 5 (by kernel_rfl)) rfl
          have e91 : a.tmps[91]? = some (.bool i3) := by rw [ha]; exact putSel_on (e := (9, 91, .bool i3)) 9 rfl rfl (hon 9 (by kernel_rfl)) rfl
          have e83 : a.tmps[83]? = some (.bool true) := by rw [ha]; exact putSel_on (e := (1, 83, .bool true)) 1 rfl rfl (hon 1 (by kernel_rfl)) rfl
          replace ha := Aside0.mk ha
          have HB := Aside0.mk Q_HB
          have y0 : (i3 == i3) = true := by simp
          refine value_ (w1 := w') (v := .bool true) (wanted_on rfl rfl rfl (e83.trans (by first | rfl | (simp [*]; done)))) rfl ?_ ?_
          · go_simp
            (try simp only [i64_w])
            try rfl
          refine hK.out _ _ ⟨(by rw [ha.out]; exact putSel_upk 10 hb_ rfl rfl rfl), Q_HB⟩
        refine steps_cons ?_ ?_
        · rintro b a w' ⟨ha, Q_HB⟩ hb_ hon hoff
          refine ⟨_, rfl, fun K hK => ?_⟩
          have e83 : a.tmps[83]? = some (.bool true) := by rw [ha]; exact putSel_on (e := (1, 83, .bool true)) 1 rfl rfl (hon 1 (by kernel_rfl)) rfl
          have e92 : a.tmps[92]? = some (.bool true) := by rw [ha]; exact putSel_on (e := (10, 92, .bool true)) 10 rfl rfl (hon 10 (by kernel_rfl)) rfl
          replace ha := Aside0.mk ha
          have HB := Aside0.mk Q_HB
          refine value_ (w1 := w') (v := .bool true) (by rfl) rfl ?_ ?_
          · go_simp
            (try simp only [i64_w])
            try rfl
          refine hK.out _ _ ⟨(by rw [ha.out]; exact putSel_upk 11 hb_ rfl rfl rfl), Q_HB⟩
        refine steps_cons ?_ ?_
        · rintro b a w' ⟨ha, Q_HB⟩ hb_ hon hoff
          refine ⟨_, rfl, fun K hK => ?_⟩
          have e93 : a.tmps[93]? = some (.bool true) := by rw [ha]; exact putSel_on (e := (11, 93, .bool true)) 11 rfl rfl (hon 11 (by kernel_rfl)) rfl
          replace ha := Aside0.mk ha
          have HB := Aside0.mk Q_HB
          refine value_ (w1 := w') (v := .bool true) (by rfl) rfl ?_ ?_
          · go_simp
            (try simp only [i64_w])
            try rfl
          refine hK.out _ _ ⟨(by rw [ha.out]; exact putSel_upk 12 hb_ rfl rfl rfl), Q_HB⟩
        refine steps_cons ?_ ?_
        · rintro b a w' ⟨ha, Q_HB⟩ hb_ hon hoff
          refine ⟨_, rfl, fun K hK => ?_⟩
          have e1 : a.tmps[1]? = some (.slice Af (fewL l).length cf) := by rw [ha]; exact (putSel_off rfl).trans rfl
          have e94 : a.tmps[94]? = some (.bool true) := by rw [ha]; exact putSel_on (e := (12, 94, .bool true)) 12 rfl rfl (hon 12 (by kernel_rfl)) rfl
          replace ha := Aside0.mk ha
          have HB := Aside0.mk Q_HB
          refine value_ (w1 := w') (v := .slice Af (fewL l).length cf) (wanted_on rfl rfl rfl (e94.trans (by first | rfl | (simp [*]; done)))) rfl ?_ ?_
          · go_simp
            (try simp only [i64_w])
            try rfl
          refine hK.out _ _ ⟨(by rw [ha.out]; exact putSel_upk 13 hb_ rfl rfl rfl), Q_HB⟩
        refine steps_cons ?_ ?_
        · rintro b a w' ⟨ha, Q_HB⟩ hb_ hon hoff
          refine ⟨_, rfl, fun K hK => ?_⟩
          have e5 : a.tmps[5]? = some (.pointer (some ⟨g5, 0, none⟩)) := by rw [ha]; exact (putSel_off rfl).trans rfl
          have e94 : a.tmps[94]? = some (.bool true) := by rw [ha]; exact putSel_on (e := (12, 94, .bool true)) 12 rfl rfl (hon 12 (by kernel_rfl)) rfl
          replace ha := Aside0.mk ha
          have HB := Aside0.mk Q_HB
          refine value_ (w1 := w') (v := .pointer (some ⟨g5, 0, none⟩)) (wanted_on rfl rfl rfl (e94.trans (by first | rfl | (simp [*]; done)))) rfl ?_ ?_
          · go_simp
            (try simp only [i64_w])
            try rfl
          refine hK.out _ _ ⟨(by rw [ha.out]; exact putSel_upk 14 hb_ rfl rfl rfl), Q_HB⟩
        refine steps_cons ?_ ?_
        · rintro b a w' ⟨ha, Q_HB⟩ hb_ hon hoff
          refine ⟨_, rfl, fun K hK => ?_⟩
          have e96 : a.tmps[96]? = some (.pointer (some ⟨g5, 0, none⟩)) := by rw [ha]; exact putSel_on (e := (14, 96, .pointer (some ⟨g5, 0, none⟩))) 14 rfl rfl (hon 14 (by kernel_rfl)) rfl
          have e94 : a.tmps[94]? = some (.bool true) := by rw [ha]; exact putSel_on (e := (12, 94, .bool true)) 12 rfl rfl (hon 12 (by kernel_rfl)) rfl
          replace ha := Aside0.mk ha
          have HB := Aside0.mk Q_HB
          have z0 : w'.cell? ⟨g5, 0, none⟩ = some (.int .i64 ax) := pw_cell_below HB.out (B5.out.cell 0)
          refine value_ (w1 := w') (v := .int .i64 ax) (wanted_on rfl rfl rfl (e94.trans (by first | rfl | (simp [*]; done)))) rfl ?_ ?_
          · go_simp
            (try simp only [i64_w])
            try rfl
          refine hK.out _ _ ⟨(by rw [ha.out]; exact putSel_upk 15 hb_ rfl rfl rfl), Q_HB⟩
        refine steps_cons ?_ ?_
        · rintro b a w' ⟨ha, Q_HB⟩ hb_ hon hoff
          refine ⟨_, rfl, fun K hK => ?_⟩
          have e5 : a.tmps[5]? = some (.pointer (some ⟨g5, 0, none⟩)) := by rw [ha]; exact (putSel_off rfl).trans rfl
          have e94 : a.tmps[94]? = some (.bool true) := by rw [ha]; exact putSel_on (e := (12, 94, .bool true)) 12 rfl rfl (hon 12 (by kernel_rfl)) rfl
          replace ha := Aside0.mk ha
          have HB := Aside0.mk Q_HB
          refine value_ (w1 := w') (v := .pointer (some ⟨g5, 1, none⟩)) (wanted_on rfl rfl rfl (e94.trans (by first | rfl | (simp [*]; done)))) rfl ?_ ?_
          · go_simp
            (try simp only [i64_w])
            try rfl
          refine hK.out _ _ ⟨(by rw [ha.out]; exact putSel_upk 16 hb_ rfl rfl rfl), Q_HB⟩
        refine steps_cons ?_ ?_
        · rintro b a w' ⟨ha, Q_HB⟩ hb_ hon hoff
          refine ⟨_, rfl, fun K hK => ?_⟩
          have e98 : a.tmps[98]? = some (.pointer (some ⟨g5, 1, none⟩)) := by rw [ha]; exact putSel_on (e := (16, 98, .pointer (some ⟨g5, 1, none⟩))) 16 rfl rfl (hon 16 (by kernel_rfl)) rfl
          have e94 : a.tmps[94]? = some (.bool true) := by rw [ha]; exact putSel_on (e := (12, 94, .bool true)) 12 rfl rfl (hon 12 (by kernel_rfl)) rfl
          replace ha := Aside0.mk ha
          have HB := Aside0.mk Q_HB
          have z1 : w'.cell? ⟨g5, 1, none⟩ = some (.int .i64 ay) := pw_cell_below HB.out (B5.out.cell 1)
          refine value_ (w1 := w') (v := .int .i64 ay) (wanted_on rfl rfl rfl (e94.trans (by first | rfl | (simp [*]; done)))) rfl ?_ ?_
          · go_simp
            (try simp only [i64_w])
            try rfl
          refine hK.out _ _ ⟨(by rw [ha.out]; exact putSel_upk 17 hb_ rfl rfl rfl), Q_HB⟩
        refine steps_cons ?_ ?_
        · rintro b a w' ⟨ha, Q_HB⟩ hb_ hon hoff
          refine ⟨_, rfl, fun K hK => ?_⟩
          have e95 : a.tmps[95]? = some (.slice Af (fewL l).length cf) := by rw [ha]; exact putSel_on (e := (13, 95, .slice Af (fewL l).length cf)) 13 rfl rfl (hon 13 (by kernel_rfl)) rfl
          have e97 : a.tmps[97]? = some (.int .i64 ax) := by rw [ha]; exact putSel_on (e := (15, 97, .int .i64 ax)) 15 rfl rfl (hon 15 (by kernel_rfl)) rfl
          have e99 : a.tmps[99]? = some (.int .i64 ay) := by rw [ha]; exact putSel_on (e := (17, 99, .int .i64 ay)) 17 rfl rfl (hon 17 (by kernel_rfl)) rfl
          have e94 : a.tmps[94]? = some (.bool true) := by rw [ha]; exact putSel_on (e := (12, 94, .bool true)) 12 rfl rfl (hon 12 (by kernel_rfl)) rfl
          replace ha := Aside0.mk ha
          have HB := Aside0.mk Q_HB
          refine call_ 14 #[.slice Af ((fewL l)).length cf, .int .i64 ax, .int .i64 ay] (wanted_on rfl rfl rfl (e94.trans rfl)) rfl ?_ ?_
          · go_simp
          refine (inP_any (fewL l) Af cf ax ay w' (Kd.C_below CF.out HB.out) LF.out F4.out FM.out).mono ?_
          rintro e w2' ⟨rfl, hb⟩
          rw [G4.out]
          refine ⟨_, rfl, ?_⟩
          refine hK.out _ _ ⟨(by rw [ha.out]; exact putSel_upk 18 hb_ rfl rfl rfl), bthen' HB.out hb⟩
        refine steps_cons ?_ ?_
        · rintro b a w' ⟨ha, Q_HB⟩ hb_ hon hoff
          refine ⟨_, rfl, fun K hK => ?_⟩
          have e1 : a.tmps[1]? = some (.slice Af (fewL l).length cf) := by rw [ha]; exact (putSel_off rfl).trans rfl
          have e94 : a.tmps[94]? = some (.bool true) := by rw [ha]; exact putSel_on (e := (12, 94, .bool true)) 12 rfl rfl (hon 12 (by kernel_rfl)) rfl
          replace ha := Aside0.mk ha
          have HB := Aside0.mk Q_HB
          refine value_ (w1 := w') (v := .slice Af (fewL l).length cf) (wanted_on rfl rfl rfl (e94.trans (by first | rfl | (simp [*]; done)))) rfl ?_ ?_
          · go_simp
            (try simp only [i64_w])
            try rfl
          refine hK.out _ _ ⟨(by rw [ha.out]; exact putSel_upk 19 hb_ rfl rfl rfl), Q_HB⟩
        refine steps_cons ?_ ?_
        · rintro b a w' ⟨ha, Q_HB⟩ hb_ hon hoff
          refine ⟨_, rfl, fun K hK => ?_⟩
          have e5 : a.tmps[5]? = some (.pointer (some ⟨g5, 0, none⟩)) := by rw [ha]; exact (putSel_off rfl).trans rfl
          have e94 : a.tmps[94]? = some (.bool true) := by rw [ha]; exact putSel_on (e := (12, 94, .bool true)) 12 rfl rfl (hon 12 (by kernel_rfl)) rfl
          replace ha := Aside0.mk ha
          have HB := Aside0.mk Q_HB
          refine value_ (w1 := w') (v := .pointer (some ⟨g5, 0, none⟩)) (wanted_on rfl rfl rfl (e94.trans (by first | rfl | (simp [*]; done)))) rfl ?_ ?_
          · go_simp
            (try simp only [i64_w])
            try rfl
          refine hK.out _ _ ⟨(by rw [ha.out]; exact putSel_upk 20 hb_ rfl rfl rfl), Q_HB⟩
        refine steps_cons ?_ ?_
        · rintro b a w' ⟨ha, Q_HB⟩ hb_ hon hoff
          refine ⟨_, rfl, fun K hK => ?_⟩
          have e102 : a.tmps[102]? = some (.pointer (some ⟨g5, 0, none⟩)) := by rw [ha]; exact putSel_on (e := (20, 102, .pointer (some ⟨g5, 0, none⟩))) 20 rfl rfl (hon 20 (by kernel_rfl)) rfl
          have e94 : a.tmps[94]? = some (.bool true) := by rw [ha]; exact putSel_on (e := (12, 94, .bool true)) 12 rfl rfl (hon 12 (by kernel_rfl)) rfl
          replace ha := Aside0.mk ha
          have HB := Aside0.mk Q_HB
          have z0 : w'.cell? ⟨g5, 0, none⟩ = some (.int .i64 ax) := pw_cell_below HB.out (B5.out.cell 0)
          refine value_ (w1 := w') (v := .int .i64 ax) (wanted_on rfl rfl rfl (e94.trans (by first | rfl | (simp [*]; done)))) rfl ?_ ?_
          · go_simp
            (try simp only [i64_w])
            try rfl
          refine hK.out _ _ ⟨(by rw [ha.out]; exact putSel_upk 21 hb_ rfl rfl rfl), Q_HB⟩
        refine steps_cons ?_ ?_
        · rintro b a w' ⟨ha, Q_HB⟩ hb_ hon hoff
          refine ⟨_, rfl, fun K hK => ?_⟩
          have e5 : a.tmps[5]? = some (.pointer (some ⟨g5, 0, none⟩)) := by rw [ha]; exact (putSel_off rfl).trans rfl
          have e94 : a.tmps[94]? = some (.bool true) := by rw [ha]; exact putSel_on (e := (12, 94, .bool true)) 12 rfl rfl (hon 12 (by kernel_rfl)) rfl
          replace ha := Aside0.mk ha
          have HB := Aside0.mk Q_HB
          refine value_ (w1 := w') (v := .pointer (some ⟨g5, 1, none⟩)) (wanted_on rfl rfl rfl (e94.trans (by first | rfl | (simp [*]; done)))) rfl ?_ ?_
          · go_simp
            (try simp only [i64_w])
            try rfl
          refine hK.out _ _ ⟨(by rw [ha.out]; exact putSel_upk 22 hb_ rfl rfl rfl), Q_HB⟩
        refine steps_cons ?_ ?_
        · rintro b a w' ⟨ha, Q_HB⟩ hb_ hon hoff
          refine ⟨_, rfl, fun K hK => ?_⟩
          have e104 : a.tmps[104]? = some (.pointer (some ⟨g5, 1, none⟩)) := by rw [ha]; exact putSel_on (e := (22, 104, .pointer (some ⟨g5, 1, none⟩))) 22 rfl rfl (hon 22 (by kernel_rfl)) rfl
          have e94 : a.tmps[94]? = some (.bool true) := by rw [ha]; exact putSel_on (e := (12, 94, .bool true)) 12 rfl rfl (hon 12 (by kernel_rfl)) rfl
          replace ha := Aside0.mk ha
          have HB := Aside0.mk Q_HB
          have z1 : w'.cell? ⟨g5, 1, none⟩ = some (.int .i64 ay) := pw_cell_below HB.out (B5.out.cell 1)
          refine value_ (w1 := w') (v := .int .i64 ay) (wanted_on rfl rfl rfl (e94.trans (by first | rfl | (simp [*]; done)))) rfl ?_ ?_
          · go_simp
            (try simp only [i64_w])
            try rfl
          refine hK.out _ _ ⟨(by rw [ha.out]; exact putSel_upk 23 hb_ rfl rfl rfl), Q_HB⟩
        refine steps_cons ?_ ?_
        · rintro b a w' ⟨ha, Q_HB⟩ hb_ hon hoff
          refine ⟨_, rfl, fun K hK => ?_⟩
          have e101 : a.tmps[101]? = some (.slice Af (fewL l).length cf) := by rw [ha]; exact putSel_on (e := (19, 101, .slice Af (fewL l).length cf)) 19 rfl rfl (hon 19 (by kernel_rfl)) rfl
          have e103 : a.tmps[103]? = some (.int .i64 ax) := by rw [ha]; exact putSel_on (e := (21, 103, .int .i64 ax)) 21 rfl rfl (hon 21 (by kernel_rfl)) rfl
          have e105 : a.tmps[105]? = some (.int .i64 ay) := by rw [ha]; exact putSel_on (e := (23, 105, .int .i64 ay)) 23 rfl rfl (hon 23 (by kernel_rfl)) rfl
          have e94 : a.tmps[94]? = some (.bool true) := by rw [ha]; exact putSel_on (e := (12, 94, .bool true)) 12 rfl rfl (hon 12 (by kernel_rfl)) rfl
          replace ha := Aside0.mk ha
          have HB := Aside0.mk Q_HB
          refine call_ 15 #[.slice Af ((fewL l)).length cf, .int .i64 ax, .int .i64 ay] (wanted_on rfl rfl rfl (e94.trans rfl)) rfl ?_ ?_
          · go_simp
          refine (inR_any (fewL l) Af cf ax ay w' (Kd.C_below CF.out HB.out) F4.out FM.out).mono ?_
          rintro e w2' ⟨rfl, hb⟩
          rw [G4.out]
          refine ⟨_, rfl, ?_⟩
          refine hK.out _ _ ⟨(by rw [ha.out]; exact putSel_upk 24 hb_ rfl rfl rfl), bthen' HB.out hb⟩
        refine steps_cons ?_ ?_
        · rintro b a w' ⟨ha, Q_HB⟩ hb_ hon hoff
          refine ⟨_, rfl, fun K hK => ?_⟩
          have e100 : a.tmps[100]? = some (.bool i4) := by rw [ha]; exact putSel_on (e := (18, 100, .bool i4)) 18 rfl rfl (hon 18 (by kernel_rfl)) rfl
          have e106 : a.tmps[106]? = some (.bool i4) := by rw [ha]; exact putSel_on (e := (24, 106, .bool i4)) 24 rfl rfl (hon 24 (by kernel_rfl)) rfl
          have e94 : a.tmps[94]? = some (.bool true) := by rw [ha]; exact putSel_on (e := (12, 94, .bool true)) 12 rfl rfl (hon 12 (by kernel_rfl)) rfl
          replace ha := Aside0.mk ha
          have HB := Aside0.mk Q_HB
          have y0 : (i4 == i4) = true := by simp
          refine value_ (w1 := w') (v := .bool true) (wanted_on rfl rfl rfl (e94.trans (by first | rfl | (simp [*]; done)))) rfl ?_ ?_
          · go_simp
            (try simp only [i64_w])
            try rfl
          refine hK.out _ _ ⟨(by rw [ha.out]; exact putSel_upk 25 hb_ rfl rfl rfl), Q_HB⟩
        refine steps_cons ?_ ?_
        · rintro b a w' ⟨ha, Q_HB⟩ hb_ hon hoff
          refine ⟨_, rfl, fun K hK => ?_⟩
          have e94 : a.tmps[94]? = some (.bool true) := by rw [ha]; exact putSel_on (e := (12, 94, .bool true)) 12 rfl rfl (hon 12 (by kernel_rfl)) rfl
          have e107 : a.tmps[107]? = some (.bool true) := by rw [ha]; exact putSel_on (e := (25, 107, .bool true)) 25 rfl rfl (hon 25 (by kernel_rfl)) rfl
          replace ha := Aside0.mk ha
          have HB := Aside0.mk Q_HB
          refine value_ (w1 := w') (v := .bool true) (by rfl) rfl ?_ ?_
          · go_simp
            (try simp only [i64_w])
            try rfl
          refine hK.out _ _ ⟨(by rw [ha.out]; exact putSel_upk 26 hb_ rfl rfl rfl), Q_HB⟩
        refine steps_cons ?_ ?_
        · rintro b a w' ⟨ha, Q_HB⟩ hb_ hon hoff
          refine ⟨_, rfl, fun K hK => ?_⟩
          have e108 : a.tmps[108]? = some (.bool true) := by rw [ha]; exact putSel_on (e := (26, 108, .bool true)) 26 rfl rfl (hon 26 (by kernel_rfl)) rfl
          replace ha := Aside0.mk ha
          have HB := Aside0.mk Q_HB
          refine value_ (w1 := w') (v := .bool true) (by rfl) rfl ?_ ?_
          · go_simp
            (try simp only [i64_w])
            try rfl
          refine hK.out _ _ ⟨(by rw [ha.out]; exact putSel_upk 27 hb_ rfl rfl rfl), Q_HB⟩
        refine steps_cons ?_ ?_
        · rintro b a w' ⟨ha, Q_HB⟩ hb_ hon hoff
          refine ⟨_, rfl, fun K hK => ?_⟩
          have e1 : a.tmps[1]? = some (.slice Af (fewL l).length cf) := by rw [ha]; exact (putSel_off rfl).trans rfl
          have e109 : a.tmps[109]? = some (.bool true) := by rw [ha]; exact putSel_on (e := (27, 109, .bool true)) 27 rfl rfl (hon 27 (by kernel_rfl)) rfl
          replace ha := Aside0.mk ha
          have HB := Aside0.mk Q_HB
          refine value_ (w1 := w') (v := .slice Af (fewL l).length cf) (wanted_on rfl rfl rfl (e109.trans (by first | rfl | (simp [*]; done)))) rfl ?_ ?_
          · go_simp
            (try simp only [i64_w])
            try rfl
          refine hK.out _ _ ⟨(by rw [ha.out]; exact putSel_upk 28 hb_ rfl rfl rfl), Q_HB⟩
        refine steps_cons ?_ ?_
        · rintro b a w' ⟨ha, Q_HB⟩ hb_ hon hoff
          refine ⟨_, rfl, fun K hK => ?_⟩
          have e9 : a.tmps[9]? = some (.int .i64 x) := by rw [ha]; exact (putSel_off rfl).trans rfl
          have e109 : a.tmps[109]? = some (.bool true) := by rw [ha]; exact putSel_on (e := (27, 109, .bool true)) 27 rfl rfl (hon 27 (by kernel_rfl)) rfl
          replace ha := Aside0.mk ha
          have HB := Aside0.mk Q_HB
          refine value_ (w1 := w') (v := .int .i64 x) (wanted_on rfl rfl rfl (e109.trans (by first | rfl | (simp [*]; done)))) rfl ?_ ?_
          · go_simp
            (try simp only [i64_w])
            try rfl
          refine hK.out _ _ ⟨(by rw [ha.out]; exact putSel_upk 29 hb_ rfl rfl rfl), Q_HB⟩
        refine steps_cons ?_ ?_
        · rintro b a w' ⟨ha, Q_HB⟩ hb_ hon hoff
          refine ⟨_, rfl, fun K hK => ?_⟩
          have e10 : a.tmps[10]? = some (.int .i64 y) := by rw [ha]; exact (putSel_off rfl).trans rfl
          have e109 : a.tmps[109]? = some (.bool true) := by rw [ha]; exact putSel_on (e := (27, 109, .bool true)) 27 rfl rfl (hon 27 (by kernel_rfl)) rfl
          replace ha := Aside0.mk ha
          have HB := Aside0.mk Q_HB
          refine value_ (w1 := w') (v := .int .i64 y) (wanted_on rfl rfl rfl (e109.trans (by first | rfl | (simp [*]; done)))) rfl ?_ ?_
          · go_simp
            (try simp only [i64_w])
            try rfl
          refine hK.out _ _ ⟨(by rw [ha.out]; exact putSel_upk 30 hb_ rfl rfl rfl), Q_HB⟩
        refine steps_cons ?_ ?_
        · rintro b a w' ⟨ha, Q_HB⟩ hb_ hon hoff
          refine ⟨_, rfl, fun K hK => ?_⟩
          have e110 : a.tmps[110]? = some (.slice Af (fewL l).length cf) := by rw [ha]; exact putSel_on (e := (28, 110, .slice Af (fewL l).length cf)) 28 rfl rfl (hon 28 (by kernel_rfl)) rfl
          have e111 : a.tmps[111]? = some (.int .i64 x) := by rw [ha]; exact putSel_on (e := (29, 111, .int .i64 x)) 29 rfl rfl (hon 29 (by kernel_rfl)) rfl
          have e112 : a.tmps[112]? = some (.int .i64 y) := by rw [ha]; exact putSel_on (e := (30, 112, .int .i64 y)) 30 rfl rfl (hon 30 (by kernel_rfl)) rfl
          have e109 : a.tmps[109]? = some (.bool true) := by rw [ha]; exact putSel_on (e := (27, 109, .bool true)) 27 rfl rfl (hon 27 (by kernel_rfl)) rfl
          replace ha := Aside0.mk ha
          have HB := Aside0.mk Q_HB
          refine call_ 14 #[.slice Af ((fewL l)).length cf, .int .i64 x, .int .i64 y] (wanted_on rfl rfl rfl (e109.trans rfl)) rfl ?_ ?_
          · go_simp
          refine (inP_any (fewL l) Af cf x y w' (Kd.C_below CF.out HB.out) LF.out F4.out FM.out).mono ?_
          rintro e w2' ⟨rfl, hb⟩
          rw [G5.out]
          refine ⟨_, rfl, ?_⟩
          refine hK.out _ _ ⟨(by rw [ha.out]; exact putSel_upk 31 hb_ rfl rfl rfl), bthen' HB.out hb⟩
        refine steps_cons ?_ ?_
        · rintro b a w' ⟨ha, Q_HB⟩ hb_ hon hoff
          refine ⟨_, rfl, fun K hK => ?_⟩
          have e1 : a.tmps[1]? = some (.slice Af (fewL l).length cf) := by rw [ha]; exact (putSel_off rfl).trans rfl
          have e109 : a.tmps[109]? = some (.bool true) := by rw [ha]; exact putSel_on (e := (27, 109, .bool true)) 27 rfl rfl (hon 27 (by kernel_rfl)) rfl
          replace ha := Aside0.mk ha
          have HB := Aside0.mk Q_HB
          refine value_ (w1 := w') (v := .slice Af (fewL l).length cf) (wanted_on rfl rfl rfl (e109.trans (by first | rfl | (simp [*]; done)))) rfl ?_ ?_
          · go_simp
            (try simp only [i64_w])
            try rfl
          refine hK.out _ _ ⟨(by rw [ha.out]; exact putSel_upk 32 hb_ rfl rfl rfl), Q_HB⟩
        refine steps_cons ?_ ?_
        · rintro b a w' ⟨ha, Q_HB⟩ hb_ hon hoff
          refine ⟨_, rfl, fun K hK => ?_⟩
          have e9 : a.tmps[9]? = some (.int .i64 x) := by rw [ha]; exact (putSel_off rfl).trans rfl
          have e109 : a.tmps[109]? = some (.bool true) := by rw [ha]; exact putSel_on (e := (27, 109, .bool true)) 27 rfl rfl (hon 27 (by kernel_rfl)) rfl
          replace ha := Aside0.mk ha
          have HB := Aside0.mk Q_HB
          refine value_ (w1 := w') (v := .int .i64 x) (wanted_on rfl rfl rfl (e109.trans (by first | rfl | (simp [*]; done)))) rfl ?_ ?_
          · go_simp
            (try simp only [i64_w])
            try rfl
          refine hK.out _ _ ⟨(by rw [ha.out]; exact putSel_upk 33 hb_ rfl rfl rfl), Q_HB⟩
        refine steps_cons ?_ ?_
        · rintro b a w' ⟨ha, Q_HB⟩ hb_ hon hoff
          refine ⟨_, rfl, fun K hK => ?_⟩
          have e10 : a.tmps[10]? = some (.int .i64 y) := by rw [ha]; exact (putSel_off rfl).trans rfl
          have e109 : a.tmps[109]? = some (.bool true) := by rw [ha]; exact putSel_on (e := (27, 109, .bool true)) 27 rfl rfl (hon 27 (by kernel_rfl)) rfl
          replace ha := Aside0.mk ha
          have HB := Aside0.mk Q_HB
          refine value_ (w1 := w') (v := .int .i64 y) (wanted_on rfl rfl rfl (e109.trans (by first | rfl | (simp [*]; done)))) rfl ?_ ?_
          · go_simp
            (try simp only [i64_w])
            try rfl
          refine hK.out _ _ ⟨(by rw [ha.out]; exact putSel_upk 34 hb_ rfl rfl rfl), Q_HB⟩
        refine steps_cons ?_ ?_
        · rintro b a w' ⟨ha, Q_HB⟩ hb_ hon hoff
          refine ⟨_, rfl, fun K hK => ?_⟩
          have e114 : a.tmps[114]? = some (.slice Af (fewL l).length cf) := by rw [ha]; exact putSel_on (e := (32, 114, .slice Af (fewL l).length cf)) 32 rfl rfl (hon 32 (by kernel_rfl)) rfl
          have e115 : a.tmps[115]? = some (.int .i64 x) := by rw [ha]; exact putSel_on (e := (33, 115, .int .i64 x)) 33 rfl rfl (hon 33 (by kernel_rfl)) rfl
          have e116 : a.tmps[116]? = some (.int .i64 y) := by rw [ha]; exact putSel_on (e := (34, 116, .int .i64 y)) 34 rfl rfl (hon 34 (by kernel_rfl)) rfl
          have e109 : a.tmps[109]? = some (.bool true) := by rw [ha]; exact putSel_on (e := (27, 109, .bool true)) 27 rfl rfl (hon 27 (by kernel_rfl)) rfl
          replace ha := Aside0.mk ha
          have HB := Aside0.mk Q_HB
          refine call_ 15 #[.slice Af ((fewL l)).length cf, .int .i64 x, .int .i64 y] (wanted_on rfl rfl rfl (e109.trans rfl)) rfl ?_ ?_
          · go_simp
          refine (inR_any (fewL l) Af cf x y w' (Kd.C_below CF.out HB.out) F4.out FM.out).mono ?_
          rintro e w2' ⟨rfl, hb⟩
          rw [G5.out]
          refine ⟨_, rfl, ?_⟩
          refine hK.out _ _ ⟨(by rw [ha.out]; exact putSel_upk 35 hb_ rfl rfl rfl), bthen' HB.out hb⟩
        refine steps_cons ?_ ?_
        · rintro b a w' ⟨ha, Q_HB⟩ hb_ hon hoff
          refine ⟨_, rfl, fun K hK => ?_⟩
          have e113 : a.tmps[113]? = some (.bool i5) := by rw [ha]; exact putSel_on (e := (31, 113, .bool i5)) 31 rfl rfl (hon 31 (by kernel_rfl)) rfl
          have e117 : a.tmps[117]? = some (.bool i5) := by rw [ha]; exact putSel_on (e := (35, 117, .bool i5)) 35 rfl rfl (hon 35 (by kernel_rfl)) rfl
          have e109 : a.tmps[109]? = some (.bool true) := by rw [ha]; exact putSel_on (e := (27, 109, .bool true)) 27 rfl rfl (hon 27 (by kernel_rfl)) rfl
          replace ha := Aside0.mk ha
          have HB := Aside0.mk Q_HB
          have y0 : (i5 == i5) = true := by simp
          refine value_ (w1 := w') (v := .bool true) (wanted_on rfl rfl rfl (e109.trans (by first | rfl | (simp [*]; done)))) rfl ?_ ?_
          · go_simp
            (try simp only [i64_w])
            try rfl
          refine hK.out _ _ ⟨(by rw [ha.out]; exact putSel_upk 36 hb_ rfl rfl rfl), Q_HB⟩
        refine steps_cons ?_ ?_
        · rintro b a w' ⟨ha, Q_HB⟩ hb_ hon hoff
          refine ⟨_, rfl, fun K hK => ?_⟩
          have e109 : a.tmps[109]? = some (.bool true) := by rw [ha]; exact putSel_on (e := (27, 109, .bool true)) 27 rfl rfl (hon 27 (by kernel_rfl)) rfl
          have e118 : a.tmps[118]? = some (.bool true) := by rw [ha]; exact putSel_on (e := (36, 118, .bool true)) 36 rfl rfl (hon 36 (by kernel_rfl)) rfl
          replace ha := Aside0.mk ha
          have HB := Aside0.mk Q_HB
          refine value_ (w1 := w') (v := .bool true) (by rfl) rfl ?_ ?_
          · go_simp
            (try simp only [i64_w])
            try rfl
          refine hK.out _ _ ⟨(by rw [ha.out]; exact putSel_upk 37 hb_ rfl rfl rfl), Q_HB⟩
        refine steps_cons ?_ ?_
        · rintro b a w' ⟨ha, Q_HB⟩ hb_ hon hoff
          refine ⟨_, rfl, fun K hK => ?_⟩
          have e119 : a.tmps[119]? = some (.bool true) := by rw [ha]; exact putSel_on (e := (37, 119, .bool true)) 37 rfl rfl (hon 37 (by kernel_rfl)) rfl
          replace ha := Aside0.mk ha
          have HB := Aside0.mk Q_HB
          refine value_ (w1 := w') (v := .bool true) (by rfl) rfl ?_ ?_
          · go_simp
            (try simp only [i64_w])
            try rfl
          refine hK.out _ _ ⟨(by rw [ha.out]; exact putSel_upk 38 hb_ rfl rfl rfl), Q_HB⟩
        exact steps_nil
      · rintro b a w' hall ⟨ha, Q_HB⟩
        clear HB
        have hb0_ := hall 0 (by kernel_rfl)
        have hb1_ := hall 1 (by kernel_rfl)
        have hb2_ := hall 2 (by kernel_rfl)
        have hb3_ := hall 3 (by kernel_rfl)
        have hb4_ := hall 4 (by kernel_rfl)
        have hb5_ := hall 5 (by kernel_rfl)
        have hb6_ := hall 6 (by kernel_rfl)
        have hb7_ := hall 7 (by kernel_rfl)
        have hb8_ := hall 8 (by kernel_rfl)
        have hb9_ := hall 9 (by kernel_rfl)
        have hb10_ := hall 10 (by kernel_rfl)
        have hb11_ := hall 11 (by kernel_rfl)
        have hb12_ := hall 12 (by kernel_rfl)
        have hb13_ := hall 13 (by kernel_rfl)
        have hb14_ := hall 14 (by kernel_rfl)
        have hb15_ := hall 15 (by kernel_rfl)
        have hb16_ := hall 16 (by kernel_rfl)
        have hb17_ := hall 17 (by kernel_rfl)
        have hb18_ := hall 18 (by kernel_rfl)
        have hb19_ := hall 19 (by kernel_rfl)
        have hb20_ := hall 20 (by kernel_rfl)
        have hb21_ := hall 21 (by kernel_rfl)
        have hb22_ := hall 22 (by kernel_rfl)
        have hb23_ := hall 23 (by kernel_rfl)
        have hb24_ := hall 24 (by kernel_rfl)
        have hb25_ := hall 25 (by kernel_rfl)
        have hb26_ := hall 26 (by kernel_rfl)
        have hb27_ := hall 27 (by kernel_rfl)
        have hb28_ := hall 28 (by kernel_rfl)
        have hb29_ := hall 29 (by kernel_rfl)
        have hb30_ := hall 30 (by kernel_rfl)
        have hb31_ := hall 31 (by kernel_rfl)
        have hb32_ := hall 32 (by kernel_rfl)
        have hb33_ := hall 33 (by kernel_rfl)
        have hb34_ := hall 34 (by kernel_rfl)
        have hb35_ := hall 35 (by kernel_rfl)
        have hb36_ := hall 36 (by kernel_rfl)
        have hb37_ := hall 37 (by kernel_rfl)
        have hb38_ := hall 38 (by kernel_rfl)
        subst ha
        simp only [putSel, hb0_, hb1_, hb2_, hb3_, hb4_, hb5_, hb6_, hb7_, hb8_, hb9_, hb10_, hb11_, hb12_, hb13_, hb14_, hb15_, hb16_, hb17_, hb18_, hb19_, hb20_, hb21_, hb22_, hb23_, hb24_, hb25_, hb26_, hb27_, hb28_, hb29_, hb30_, hb31_, hb32_, hb33_, hb34_, hb35_, hb36_, hb37_, hb38_, if_true, Act.put, List.setIfInBounds_toArray, List.set_cons_zero, List.set_cons_succ]
        have HB := Aside0.mk Q_HB
        clear Q_HB
        clear hall hb0_ hb1_ hb2_ hb3_ hb4_ hb5_ hb6_ hb7_ hb8_ hb9_ hb10_ hb11_ hb12_ hb13_ hb14_ hb15_ hb16_ hb17_ hb18_ hb19_ hb20_ hb21_ hb22_ hb23_ hb24_ hb25_ hb26_ hb27_ hb28_ hb29_ hb30_ hb31_ hb32_ hb33_ hb34_ hb35_ hb36_ hb37_ hb38_
        have HBe := Lib.hid (bthen' HB4.out HB.out)
        go_wp2_with fail
        go_ret
        exact ⟨rfl, HBe.out⟩
end Go.Proofs.YtleljodcdbhifaaDoor
