/- A bitmap that numbers make. -/
import Derived.Test.YtleljodcdbhifaaDoorBa4
import Derived.Test.YtleljodcdbhifaaDoorScOrP
import Derived.Test.YtleljodcdbhifaaDoorWInvWords
set_option linter.unusedVariables false
set_option linter.unusedSimpArgs false
namespace Go.Proofs.YtleljodcdbhifaaDoor
open Go.RowKit Go.Proofs.YtleljodcdbhifaaDoorW.PrintWords Go.Proofs.YtleljodcdbhifaaDoorW.PrintLast Go.Proofs.YtleljodcdbhifaaDoorW.PrintMore Hy
attribute [local go_sem ↓] Go.wp_at_zero Go.wp_at_succ
def scDrw.T5 : Bool × List (List Nat × List Nat) := (true, [([], []), ([0], [0]), ([], []), ([], []), ([2, 3], [2, 3]), ([4], [4]), ([], []), ([6], [6]), ([7], [7]), ([8], [8]), ([5, 9], [5, 9]), ([10], [10]), ([1, 11], [1, 11]), ([0, 1, 2, 3, 4, 5, 6, 7, 8, 9, 10, 11, 12], []), ([13, 12, 12, 0, 1, 2, 3, 4, 5, 6, 7, 8, 9, 10, 11, 12], [12, 13])])
def scDrw.B5 : List Nat := [0, 1, 0, 0, 12, 28, 0, 64, 192, 448, 1020, 2044, 4095, 8191, 16383]
theorem scDrw.tab5 : rtab .any (opsOf Tryd.f26 5) = scDrw.T5 := by kernel_rfl
theorem scDrw.bits5 : waitsOk scDrw.T5.2 scDrw.B5 = true := by kernel_rfl
/-- a row in a width -/
def mk (wn : Nat) (r : Int) : Int := ((r.toNat &&& (2 ^ wn - 1) : Nat) : Int)
def drawW (q : Int) : Nat := (1 + Int.tmod (Int.tmod q 24 + 24) 24).toNat
def drawB (q0 q1 q2 : Int) (l : List Int) : Bm := if l.take 20 = [] then Bm.zero else ⟨Int.tmod q0 20, Int.tmod q1 20, drawW q2, (l.take 20).length, (l.take 20).map (mk (drawW q2))⟩
theorem tmod_b (n m : Int) (h : 0 < m) : -m < Int.tmod n m ∧ Int.tmod n m < m := by
  have h1 := Int.tmod_lt_of_pos n h
  have h2 := Int.tmod_lt_of_pos (-n) h
  rw [Int.neg_tmod] at h2
  omega
theorem drawW_b (q : Int) : 1 ≤ drawW q ∧ drawW q ≤ 24 ∧ (drawW q : Int) = 1 + Int.tmod (Int.tmod q 24 + 24) 24 := by
  have h1 := tmod_b q 24 (by decide)
  have h2 := tmod_b (Int.tmod q 24 + 24) 24 (by decide)
  have h3 : 0 ≤ Int.tmod (Int.tmod q 24 + 24) 24 := Int.tmod_nonneg _ (by omega)
  unfold drawW
  omega
theorem mk_u64 (wn : Nat) (r : Int) (h : u64 r) : u64 (mk wn r) := by
  unfold u64 mk at *
  have := Nat.and_le_left (n := r.toNat) (m := 2 ^ wn - 1)
  omega
theorem mk_lt (wn : Nat) (r : Int) : (mk wn r).toNat < 2 ^ wn := by
  unfold mk
  rw [Int.toNat_natCast]
  have h := Nat.and_le_right (n := r.toNat) (m := 2 ^ wn - 1)
  have := Nat.two_pow_pos wn
  omega
theorem draw_sm (q0 q1 q2 : Int) (l : List Int) (hu : ∀ r ∈ l, u64 r) : Sm (drawB q0 q1 q2 l) := by
  unfold drawB
  split
  · exact .inl rfl
  · rename_i h0
    have h1 := tmod_b q0 20 (by decide)
    have h2 := tmod_b q1 20 (by decide)
    have h3 := drawW_b q2
    have hl : (l.take 20).length ≤ 20 := by rw [List.length_take]; omega
    have hp : 0 < (l.take 20).length := List.length_pos_iff.2 h0
    have hW : Words ((l.take 20).map (mk (drawW q2))) := by
      intro r hr
      obtain ⟨x, hx, rfl⟩ := List.mem_map.1 hr
      exact mk_u64 _ _ (hu x (List.mem_of_mem_take hx))
    right
    dsimp only
    refine ⟨okB_mk (by omega) (by omega) (by rw [List.length_map]) (by omega) (by omega) hW ?_, hW, by omega, by omega, by omega, by omega⟩
    intro r hr
    obtain ⟨x, hx, rfl⟩ := List.mem_map.1 hr
    rw [Int.toNat_natCast]
    exact mk_lt _ _
theorem append_u64 {w0 w : World} {base : Nat} {v : Value} {xs : List Int} (hR : Kd.R (Kd.int .u64) 59 w base (fun _ => True) v xs) (hB : Below base w0 w) (hbase : base ≤ w.heap.size) (g : Nat) (x : Int) (hblk : Blk w g #[.int .u64 x] 59) (hl : xs.length ≤ 100) :
    ∃ v' w', (Builtin.append_ #[34, 34] 34 #[v, .slice (some ⟨g, 0, none⟩) 1 1]).run Tryd.prog w = .ok v' w' ∧ Kd.R (Kd.int .u64) 59 w' base (fun _ => True) v' (xs ++ [x]) ∧ Below base w0 w' ∧ w.grownBy w' v.ownBlock := by
  have ho := Kd.own_of_R hR
  have hinfo : (Tryd.prog.info? 59).map (fun i => (i.zero, i.size, i.bytes)) = some (some (.int .u64 0), 1, 8) := info59
  obtain ⟨i0, hi, hzz⟩ := Option.map_eq_some_iff.1 hinfo
  simp only [Prod.mk.injEq] at hzz
  obtain ⟨hz0, hz1, hz2⟩ := hzz
  obtain ⟨v', w', hr, h2, h3, _⟩ := run_append_own (P := Tryd.prog) w base 34 34 59 i0 _ 1 8 Tryd.underlying34 hi hz0 hz1 hz2 rfl (by decide) v xs.length _ ho ⟨g, 0, none⟩ 1 1 [.int .u64 x] rfl (by
    intro j u hu
    have hb := hblk.cell j
    rw [add_plain, hb]
    simpa using hu) (by intro u hu; rw [List.mem_singleton.1 hu]; rfl) (by simp only [maxLen]; omega) (by omega) hbase
  refine ⟨v', w', hr, Kd.R_of_own ?_ (fun _ _ => trivial), hB.grown h3 hbase (own_base ho), h3⟩
  rw [List.length_append, List.length_singleton]
  have e : encs (Value.int .u64) (xs ++ [x]) = encs (Value.int .u64) xs ++ [.int .u64 x] := by simp [encs]
  rw [e]
  exact h2
theorem run_append_opU {P : Program} {a : Act} {oi : Oper} {t : TypeId} {x v : Nat} {p y u : Value} {w w1 : World} (ho : oi.op = .call { callee := .builtin .append, args := #[.tmp x, .tmp v], argTypes := #[t, t] }) (e1 : a.tmps[x]? = some p) (e2 : a.tmps[v]? = some y) (h : (Builtin.append_ #[t, t] oi.type #[p, y]).run P w = .ok u w1) : (execOp a.eval oi).run P w = .ok (.value u) w1 := by
  unfold execOp
  simp only [ho, resolve, invoke, builtin, Sem.run_bind, Sem.run_pure, Result.andThen_ok, List.map_toArray, List.map_cons, List.map_nil, eval_of e1, eval_of e2, h]
theorem take_mk (wn : Nat) (l : List Int) (k : Nat) (h : k < l.length) : (l.take (k + 1)).map (mk wn) = (l.take k).map (mk wn) ++ [mk wn (rd l (k : Int))] := by
  rw [List.take_succ_eq_append_getElem h, List.map_append, rd_at h]; rfl
set_option maxRecDepth 100000 in
set_option maxHeartbeats 40000000 in
theorem drawn_any (q0 q1 q2 : Int) (A : Option Addr) (c : Nat) (l : List Int) (w : World) (hr : Kd.C (Kd.int .u64) w A l.length l) (hu : ∀ r ∈ l, u64 r) :
    Calls Tryd.prog 26 #[.agg #[.int .i64 q0, .int .i64 q1, .int .i64 q2], .slice A l.length c] w fun e w' => ∃ v, e = .returned (.agg #[.int .i64 (drawB q0 q1 q2 l).L, .int .i64 (drawB q0 q1 q2 l).T, .int .i64 (drawB q0 q1 q2 l).W, .int .i64 (drawB q0 q1 q2 l).H, v]) ∧ Kd.R (Kd.int .u64) 59 w' w.heap.size (fun _ => True) v (drawB q0 q1 q2 l).rows ∧ Below w.heap.size w w' := by
  have hu36 := Tryd.underlying36
  have hmx : l.length ≤ 9223372036854775807 := hr.2.1
  have HR := Lib.hid hr
  have HU := Lib.hid hu
  have HMX := Lib.hid hmx
  clear hr hu hmx
  go_enter Tryd.func26, Tryd.ntmps26
  go_upto_region 1 with fail
  obtain ⟨w0, g2, hw, hg, Q1, HQ1, _⟩ := new_box w #[.int .i64 q0, .int .i64 q1, .int .i64 q2] 52
  obtain ⟨w1, g4, hw', hg', Z1, HZ1, _⟩ := new_box w0 #[.int .i64 0, .int .i64 0, .int .i64 0, .int .i64 0, .slice none 0 0] 36
  have eg : g2 + 1 = g4 := by rw [← hg', ← hw, World.size_alloc, hg]
  rw [hg, hw, hw', eg]
  have HB1 := Lib.hid (bthen' HQ1.out HZ1.out)
  have Q2 := Lib.hid (Q1.out.below HZ1.out)
  have GE4 := Lib.hid (show w.heap.size ≤ g4 by omega)
  clear hw hg hw' hg' eg Q1 HQ1 HZ1
  have a0 := Q2.out.cell 0
  have a1 := Q2.out.cell 1
  have a2 := Q2.out.cell 2
  simp only [List.getElem?_toArray, List.getElem?_cons_zero, List.getElem?_cons_succ] at a0 a1 a2
  have hW := drawW_b q2
  have hDB : Hid (drawB q0 q1 q2 l = if l.take 20 = [] then Bm.zero else ⟨Int.tmod q0 20, Int.tmod q1 20, drawW q2, (l.take 20).length, (l.take 20).map (mk (drawW q2))⟩) := Lib.hid rfl
  have e1 : IntKind.i64.wrap (Int.tmod q2 24 + 24) = Int.tmod q2 24 + 24 := IntWalk.i64_in _ (by have := tmod_b q2 24 (by decide); omega)
  have e2 : IntKind.i64.wrap (1 + Int.tmod (Int.tmod q2 24 + 24) 24) = (drawW q2 : Int) := by rw [← hW.2.2]; exact IntWalk.i64_in _ (by omega)
  go_upto_region 2 with fail
  rw [← hW.2.2]
  generalize Int.tmod q0 20 = bL at *
  generalize Int.tmod q1 20 = bT at *
  generalize drawW q2 = wn at *
  clear e1 e2 a0 a1 a2 Q2
  have HW := Lib.hid (show 1 ≤ wn ∧ wn ≤ 24 from ⟨hW.1, hW.2.1⟩)
  clear hW
  obtain ⟨w2, g5, hw, hg, B5', HX2, _⟩ := new_box w1 #[.int .i64 bL, .int .i64 bT, .int .i64 (wn : Int), .int .i64 0, .slice none 0 0] 36
  rw [hw, hg]
  have HB2 := Lib.hid (bthen' HB1.out HX2.out)
  have Z2 := Lib.hid (Z1.out.below HX2.out)
  have N45 := Lib.hid (show g4 ≠ g5 by have := Z1.out.lt; omega)
  have GE5 := Lib.hid (show w.heap.size ≤ g5 by have := HB1.out.size; omega)
  clear hw hg HB1 HX2 Z1
  go_wp2_with fail
  go_loopw [6] (fun i wr => ∃ (k : Nat) (v : Value), i = .int .i64 k ∧ k ≤ l.length ∧ k ≤ 20 ∧ Hid (Below w.heap.size w wr) ∧ Hid (Blk wr g4 #[.int .i64 0, .int .i64 0, .int .i64 0, .int .i64 0, .slice none 0 0] 36) ∧ Hid (Blk wr g5 #[.int .i64 bL, .int .i64 bT, .int .i64 (wn : Int), .int .i64 0, v] 36) ∧ Hid (Kd.R (Kd.int .u64) 59 wr w.heap.size (fun _ => True) v ((l.take k).map (mk wn)))) (fun i _ => 20 - (intOf i).toNat)
  case atStart => exact ⟨0, _, rfl, Nat.zero_le _, Nat.zero_le _, HB2, Z2, B5', Lib.hid (Kd.R_nil _ _ _ _ _)⟩
  case round =>
  clear HB2 Z2 B5'
  obtain ⟨k, v, rfl, hkl, hk20, HBr, ZBr, B5r, RVr⟩ := hrel
  by_cases hk : k < l.length ∧ k < 20
  · have d1 : decide (k < l.length) = true := decide_eq_true hk.1
    have d2 : decide ((k : Int) < 20) = true := decide_eq_true (by omega)
    have hy0 : (0 : Int) ≤ (k : Int) := by omega
    have hy1 : (k : Int) < (l.length : Int) := by omega
    obtain ⟨ad, hA, h1⟩ := Kd.at_int HR.out (k : Int) hy0 hy1
    subst hA
    rw [Int.toNat_natCast] at h1
    have HTK := Lib.hid (take_mk wn l k hk.1)
    have hux : u64 (rd l (k : Int)) := getD_u64 HU.out _
    obtain ⟨rs, hrs⟩ : ∃ rs, (l.take k).map (mk wn) = rs := ⟨_, rfl⟩
    rw [hrs] at RVr HTK
    have RSL := Aside0.mk (show rs.length ≤ 100 by rw [← hrs, List.length_map, List.length_take]; omega)
    generalize rd l (k : Int) = x at *
    have XC := Aside0.mk h1
    have Y0 := Aside0.mk hy0
    have Y1 := Aside0.mk hy1
    have N4 := Aside0.mk (Kd.R_ne RVr.out ZBr.out (by decide))
    have N5 := Aside0.mk (Kd.R_ne RVr.out B5r.out (by decide))
    have HK := Lib.hid hk
    obtain ⟨xm, hxm⟩ : ∃ xm, mk wn x = xm := ⟨_, rfl⟩
    rw [hxm] at HTK
    have hwn := HW.out
    have hp : 2 ^ wn < 2 ^ 64 := Nat.pow_lt_pow_right (by decide) (by omega)
    have hp0 := Nat.two_pow_pos wn
    obtain ⟨M, hM⟩ : ∃ M : Int, M = ((2 ^ wn : Nat) : Int) := ⟨_, rfl⟩
    obtain ⟨M1, hM1⟩ : ∃ M1 : Int, M1 = ((2 ^ wn - 1 : Nat) : Int) := ⟨_, rfl⟩
    have YS := Aside0.mk (show IntKind.u64.wrap (2 ^ min wn 64) = M by
      rw [Nat.min_eq_left (by omega), hM, show (2 : Int) ^ wn = ((2 ^ wn : Nat) : Int) by simp]
      generalize 2 ^ wn = m at *
      exact IntWalk.u64_in _ (by omega))
    have YM := Aside0.mk (show IntKind.u64.wrap (M - 1) = M1 by
      rw [hM, hM1]
      generalize 2 ^ wn = m at *
      rw [show ((m : Int) - 1) = ((m - 1 : Nat) : Int) by omega]
      exact IntWalk.u64_in _ (by omega))
    have YA := Aside0.mk (show bits BinOp.and IntKind.u64 x M1 = xm by
      rw [hM1, ← hxm]
      unfold mk u64 at *
      obtain ⟨n, rfl⟩ : ∃ n : Nat, x = n := ⟨x.toNat, by omega⟩
      rw [Int.toNat_natCast]
      generalize 2 ^ wn = m at *
      exact bits_and_u64_nat n (m - 1) (by omega) (by omega))
    have YW := Aside0.mk (show (0 : Int) ≤ (wn : Int) by omega)
    have e8 : IntKind.i64.wrap ((k : Int) + 1) = ((k + 1 : Nat) : Int) := by rw [IntWalk.i64_in _ (by omega)]; omega
    clear hk hkl hk20 hux h1 hrs hxm hwn hp hp0 hM hM1 hy0 hy1
    have E8 := Lib.hid e8
    clear e8
    go_upto_region 5 with fail
    clear d1 d2
    refine start_ (n := 15) (S := fun w' => True) (ds := []) #[false, false, false, false, false, false, false, false, false, false, false, false, false, false, false] (by kernel_rfl) rfl rfl trivial (fun hHeld => ?_)
    refine with_tabW scDrw.tab5 scDrw.bits5 (fun HT_ HW_ => ?_)
    have HB : Aside0 (Below w.heap.size w wr.drew) := ⟨bdrew HBr.out⟩
    have ZB : Aside0 (Blk wr.drew g4 #[.int .i64 0, .int .i64 0, .int .i64 0, .int .i64 0, .slice none 0 0] 36) := ⟨ZBr.out.drew⟩
    have B5 : Aside0 (Blk wr.drew g5 #[.int .i64 bL, .int .i64 bT, .int .i64 (wn : Int), .int .i64 0, v] 36) := ⟨B5r.out.drew⟩
    have RV : Aside0 (Kd.R (Kd.int .u64) 59 wr.drew w.heap.size (fun _ => True) v rs) := ⟨Kd.R_below RVr.out (below_drew (Below.refl _ _))⟩
    generalize hwd : wr.drew = w1' at *
    clear hwd
    refine inv_at [0, 1, 2, 3, 4, 5, 6, 7, 8, 9, 10, 11, 12, 13, 14] (fun a0_ b a w' => ∃ (ge : Nat) (v1 : Value) (m11_ : Value), a = putSel a0_ b [(0, 30, .pointer (some ⟨g5, 4, none⟩)), (1, 31, v), (2, 32, .slice (some ad) l.length c), (3, 33, .int .i64 (k : Int)), (4, 34, .pointer (some (ad.add k))), (5, 35, .int .u64 x), (6, 36, .pointer (some ⟨g5, 2, none⟩)), (7, 37, .int .i64 (wn : Int)), (8, 38, .int .u64 M), (9, 39, .int .u64 M1), (10, 40, .int .u64 xm), (11, 41, m11_), (12, 42, v1), (13, 43, .pointer (some ⟨g5, 4, none⟩))] ∧ (Below w.heap.size w w') ∧ (Blk w' g4 #[.int .i64 0, .int .i64 0, .int .i64 0, .int .i64 0, .slice none 0 0] 36) ∧ (b 14 = false → Blk w' g5 #[.int .i64 bL, .int .i64 bT, .int .i64 (wn : Int), .int .i64 0, v] 36) ∧ (b 12 = false → Kd.R (Kd.int .u64) 59 w' w.heap.size (fun _ => True) v rs) ∧ (b 11 = true → b 12 = false → Blk w' ge #[.int .u64 xm] 59) ∧ (b 12 = true → Kd.R (Kd.int .u64) 59 w' w.heap.size (fun _ => True) v1 (rs ++ [xm])) ∧ (b 14 = true → Blk w' g5 #[.int .i64 bL, .int .i64 bT, .int .i64 (wn : Int), .int .i64 0, v1] 36) ∧ (b 11 = true → (m11_ : Value) = .slice (some ⟨ge, 0, none⟩) 1 1)) HT_.out HW_.out (by kernel_rfl) (by kernel_rfl) ?_ ?_ ?_
    · exact ⟨0, undef, .bool false, by simp only [putSel, Bool.false_eq_true, if_false], HB.out, ZB.out, fun _ => B5.out, fun _ => RV.out, fun h_ => absurd h_ (by decide), fun h_ => absurd h_ (by decide), fun h_ => absurd h_ (by decide), fun h_ => absurd h_ (by decide)⟩
    · skip
      clear B5 HB RV ZB
      refine steps_cons ?_ ?_
      · rintro b a w' ⟨ge, v1, m11_, ha, Q_HB, Q_ZB, Q_B5, Q_RV, Q_EB, Q_R1, Q_B6, Q_X11_⟩ hb_ hon hoff
        refine ⟨_, rfl, fun K hK => ?_⟩
        have e5 : a.tmps[5]? = some (.pointer (some ⟨g5, 0, none⟩)) := by rw [ha]; exact (putSel_off rfl).trans rfl
        replace ha := Aside0.mk ha
        have HB := Aside0.mk Q_HB
        have ZB := Aside0.mk Q_ZB
        have B5 := Aside0.mk (Q_B5 (hoff 14 (by kernel_rfl)))
        have RV := Aside0.mk (Q_RV (hoff 12 (by kernel_rfl)))
        refine value_ (w1 := w') (v := .pointer (some ⟨g5, 4, none⟩)) (by rfl) rfl ?_ ?_
        · go_simp
          (try simp only [i64_w])
          try rfl
        refine hK.out _ _ ⟨ge, v1, m11_, (by rw [ha.out]; exact putSel_upk 0 hb_ rfl rfl rfl), Q_HB, Q_ZB, Q_B5, Q_RV, Q_EB, fun h0_ => absurd ((hoff 12 (by kernel_rfl)).symm.trans h0_) (by decide), fun h0_ => absurd ((hoff 14 (by kernel_rfl)).symm.trans h0_) (by decide), Q_X11_⟩
      refine steps_cons ?_ ?_
      · rintro b a w' ⟨ge, v1, m11_, ha, Q_HB, Q_ZB, Q_B5, Q_RV, Q_EB, Q_R1, Q_B6, Q_X11_⟩ hb_ hon hoff
        refine ⟨_, rfl, fun K hK => ?_⟩
        have e30 : a.tmps[30]? = some (.pointer (some ⟨g5, 4, none⟩)) := by rw [ha]; exact putSel_on (e := (0, 30, .pointer (some ⟨g5, 4, none⟩))) 0 rfl rfl (hon 0 (by kernel_rfl)) rfl
        replace ha := Aside0.mk ha
        have HB := Aside0.mk Q_HB
        have ZB := Aside0.mk Q_ZB
        have B5 := Aside0.mk (Q_B5 (hoff 14 (by kernel_rfl)))
        have RV := Aside0.mk (Q_RV (hoff 12 (by kernel_rfl)))
        have q4 : w'.cell? ⟨g5, 4, none⟩ = some v := B5.out.cell 4
        refine value_ (w1 := w') (v := v) (by rfl) rfl ?_ ?_
        · go_simp
          (try simp only [i64_w])
          try rfl
        refine hK.out _ _ ⟨ge, v1, m11_, (by rw [ha.out]; exact putSel_upk 1 hb_ rfl rfl rfl), Q_HB, Q_ZB, Q_B5, Q_RV, Q_EB, fun h0_ => absurd ((hoff 12 (by kernel_rfl)).symm.trans h0_) (by decide), fun h0_ => absurd ((hoff 14 (by kernel_rfl)).symm.trans h0_) (by decide), Q_X11_⟩
      refine steps_cons ?_ ?_
      · rintro b a w' ⟨ge, v1, m11_, ha, Q_HB, Q_ZB, Q_B5, Q_RV, Q_EB, Q_R1, Q_B6, Q_X11_⟩ hb_ hon hoff
        refine ⟨_, rfl, fun K hK => ?_⟩
        have e1 : a.tmps[1]? = some (.slice (some ad) l.length c) := by rw [ha]; exact (putSel_off rfl).trans rfl
        replace ha := Aside0.mk ha
        have HB := Aside0.mk Q_HB
        have ZB := Aside0.mk Q_ZB
        have B5 := Aside0.mk (Q_B5 (hoff 14 (by kernel_rfl)))
        have RV := Aside0.mk (Q_RV (hoff 12 (by kernel_rfl)))
        refine value_ (w1 := w') (v := .slice (some ad) l.length c) (by rfl) rfl ?_ ?_
        · go_simp
          (try simp only [i64_w])
          try rfl
        refine hK.out _ _ ⟨ge, v1, m11_, (by rw [ha.out]; exact putSel_upk 2 hb_ rfl rfl rfl), Q_HB, Q_ZB, Q_B5, Q_RV, fun h0_ _ => absurd ((hoff 11 (by kernel_rfl)).symm.trans h0_) (by decide), fun h0_ => absurd ((hoff 12 (by kernel_rfl)).symm.trans h0_) (by decide), fun h0_ => absurd ((hoff 14 (by kernel_rfl)).symm.trans h0_) (by decide), fun h0_ => absurd ((hoff 11 (by kernel_rfl)).symm.trans h0_) (by decide)⟩
      refine steps_cons ?_ ?_
      · rintro b a w' ⟨ge, v1, m11_, ha, Q_HB, Q_ZB, Q_B5, Q_RV, Q_EB, Q_R1, Q_B6, Q_X11_⟩ hb_ hon hoff
        refine ⟨_, rfl, fun K hK => ?_⟩
        have e6 : a.tmps[6]? = some (.int .i64 (k : Int)) := by rw [ha]; exact (putSel_off rfl).trans rfl
        replace ha := Aside0.mk ha
        have HB := Aside0.mk Q_HB
        have ZB := Aside0.mk Q_ZB
        have B5 := Aside0.mk (Q_B5 (hoff 14 (by kernel_rfl)))
        have RV := Aside0.mk (Q_RV (hoff 12 (by kernel_rfl)))
        refine value_ (w1 := w') (v := .int .i64 (k : Int)) (by rfl) rfl ?_ ?_
        · go_simp
          (try simp only [i64_w])
          try rfl
        refine hK.out _ _ ⟨ge, v1, m11_, (by rw [ha.out]; exact putSel_upk 3 hb_ rfl rfl rfl), Q_HB, Q_ZB, Q_B5, Q_RV, fun h0_ _ => absurd ((hoff 11 (by kernel_rfl)).symm.trans h0_) (by decide), fun h0_ => absurd ((hoff 12 (by kernel_rfl)).symm.trans h0_) (by decide), fun h0_ => absurd ((hoff 14 (by kernel_rfl)).symm.trans h0_) (by decide), fun h0_ => absurd ((hoff 11 (by kernel_rfl)).symm.trans h0_) (by decide)⟩
      refine steps_cons ?_ ?_
      · rintro b a w' ⟨ge, v1, m11_, ha, Q_HB, Q_ZB, Q_B5, Q_RV, Q_EB, Q_R1, Q_B6, Q_X11_⟩ hb_ hon hoff
        refine ⟨_, rfl, fun K hK => ?_⟩
        have e32 : a.tmps[32]? = some (.slice (some ad) l.length c) := by rw [ha]; exact putSel_on (e := (2, 32, .slice (some ad) l.length c)) 2 rfl rfl (hon 2 (by kernel_rfl)) rfl
        have e33 : a.tmps[33]? = some (.int .i64 (k : Int)) := by rw [ha]; exact putSel_on (e := (3, 33, .int .i64 (k : Int))) 3 rfl rfl (hon 3 (by kernel_rfl)) rfl
        replace ha := Aside0.mk ha
        have HB := Aside0.mk Q_HB
        have ZB := Aside0.mk Q_ZB
        have B5 := Aside0.mk (Q_B5 (hoff 14 (by kernel_rfl)))
        have RV := Aside0.mk (Q_RV (hoff 12 (by kernel_rfl)))
        have y0 := Y0.out
        have y1 := Y1.out
        refine value_ (w1 := w') (v := .pointer (some (ad.add k))) (by rfl) rfl ?_ ?_
        · go_simp
          (try simp only [i64_w])
          try rfl
        refine hK.out _ _ ⟨ge, v1, m11_, (by rw [ha.out]; exact putSel_upk 4 hb_ rfl rfl rfl), Q_HB, Q_ZB, Q_B5, Q_RV, fun h0_ _ => absurd ((hoff 11 (by kernel_rfl)).symm.trans h0_) (by decide), fun h0_ => absurd ((hoff 12 (by kernel_rfl)).symm.trans h0_) (by decide), fun h0_ => absurd ((hoff 14 (by kernel_rfl)).symm.trans h0_) (by decide), fun h0_ => absurd ((hoff 11 (by kernel_rfl)).symm.trans h0_) (by decide)⟩
      refine steps_cons ?_ ?_
      · rintro b a w' ⟨ge, v1, m11_, ha, Q_HB, Q_ZB, Q_B5, Q_RV, Q_EB, Q_R1, Q_B6, Q_X11_⟩ hb_ hon hoff
        refine ⟨_, rfl, fun K hK => ?_⟩
        have e34 : a.tmps[34]? = some (.pointer (some (ad.add k))) := by rw [ha]; exact putSel_on (e := (4, 34, .pointer (some (ad.add k)))) 4 rfl rfl (hon 4 (by kernel_rfl)) rfl
        replace ha := Aside0.mk ha
        have HB := Aside0.mk Q_HB
        have ZB := Aside0.mk Q_ZB
        have B5 := Aside0.mk (Q_B5 (hoff 14 (by kernel_rfl)))
        have RV := Aside0.mk (Q_RV (hoff 12 (by kernel_rfl)))
        have hx : w'.cell? (ad.add k) = some (.int .u64 x) := pw_cell_below HB.out XC.out
        refine value_ (w1 := w') (v := .int .u64 x) (by rfl) rfl ?_ ?_
        · go_simp
          (try simp only [i64_w])
          try rfl
        refine hK.out _ _ ⟨ge, v1, m11_, (by rw [ha.out]; exact putSel_upk 5 hb_ rfl rfl rfl), Q_HB, Q_ZB, Q_B5, Q_RV, fun h0_ _ => absurd ((hoff 11 (by kernel_rfl)).symm.trans h0_) (by decide), fun h0_ => absurd ((hoff 12 (by kernel_rfl)).symm.trans h0_) (by decide), fun h0_ => absurd ((hoff 14 (by kernel_rfl)).symm.trans h0_) (by decide), fun h0_ => absurd ((hoff 11 (by kernel_rfl)).symm.trans h0_) (by decide)⟩
      refine steps_cons ?_ ?_
      · rintro b a w' ⟨ge, v1, m11_, ha, Q_HB, Q_ZB, Q_B5, Q_RV, Q_EB, Q_R1, Q_B6, Q_X11_⟩ hb_ hon hoff
        refine ⟨_, rfl, fun K hK => ?_⟩
        have e5 : a.tmps[5]? = some (.pointer (some ⟨g5, 0, none⟩)) := by rw [ha]; exact (putSel_off rfl).trans rfl
        replace ha := Aside0.mk ha
        have HB := Aside0.mk Q_HB
        have ZB := Aside0.mk Q_ZB
        have B5 := Aside0.mk (Q_B5 (hoff 14 (by kernel_rfl)))
        have RV := Aside0.mk (Q_RV (hoff 12 (by kernel_rfl)))
        refine value_ (w1 := w') (v := .pointer (some ⟨g5, 2, none⟩)) (by rfl) rfl ?_ ?_
        · go_simp
          (try simp only [i64_w])
          try rfl
        refine hK.out _ _ ⟨ge, v1, m11_, (by rw [ha.out]; exact putSel_upk 6 hb_ rfl rfl rfl), Q_HB, Q_ZB, Q_B5, Q_RV, fun h0_ _ => absurd ((hoff 11 (by kernel_rfl)).symm.trans h0_) (by decide), fun h0_ => absurd ((hoff 12 (by kernel_rfl)).symm.trans h0_) (by decide), fun h0_ => absurd ((hoff 14 (by kernel_rfl)).symm.trans h0_) (by decide), fun h0_ => absurd ((hoff 11 (by kernel_rfl)).symm.trans h0_) (by decide)⟩
      refine steps_cons ?_ ?_
      · rintro b a w' ⟨ge, v1, m11_, ha, Q_HB, Q_ZB, Q_B5, Q_RV, Q_EB, Q_R1, Q_B6, Q_X11_⟩ hb_ hon hoff
        refine ⟨_, rfl, fun K hK => ?_⟩
        have e36 : a.tmps[36]? = some (.pointer (some ⟨g5, 2, none⟩)) := by rw [ha]; exact putSel_on (e := (6, 36, .pointer (some ⟨g5, 2, none⟩))) 6 rfl rfl (hon 6 (by kernel_rfl)) rfl
        replace ha := Aside0.mk ha
        have HB := Aside0.mk Q_HB
        have ZB := Aside0.mk Q_ZB
        have B5 := Aside0.mk (Q_B5 (hoff 14 (by kernel_rfl)))
        have RV := Aside0.mk (Q_RV (hoff 12 (by kernel_rfl)))
        have q2 : w'.cell? ⟨g5, 2, none⟩ = some (.int .i64 (wn : Int)) := B5.out.cell 2
        refine value_ (w1 := w') (v := .int .i64 (wn : Int)) (by rfl) rfl ?_ ?_
        · go_simp
          (try simp only [i64_w])
          try rfl
        refine hK.out _ _ ⟨ge, v1, m11_, (by rw [ha.out]; exact putSel_upk 7 hb_ rfl rfl rfl), Q_HB, Q_ZB, Q_B5, Q_RV, fun h0_ _ => absurd ((hoff 11 (by kernel_rfl)).symm.trans h0_) (by decide), fun h0_ => absurd ((hoff 12 (by kernel_rfl)).symm.trans h0_) (by decide), fun h0_ => absurd ((hoff 14 (by kernel_rfl)).symm.trans h0_) (by decide), fun h0_ => absurd ((hoff 11 (by kernel_rfl)).symm.trans h0_) (by decide)⟩
      refine steps_cons ?_ ?_
      · rintro b a w' ⟨ge, v1, m11_, ha, Q_HB, Q_ZB, Q_B5, Q_RV, Q_EB, Q_R1, Q_B6, Q_X11_⟩ hb_ hon hoff
        refine ⟨_, rfl, fun K hK => ?_⟩
        have e37 : a.tmps[37]? = some (.int .i64 (wn : Int)) := by rw [ha]; exact putSel_on (e := (7, 37, .int .i64 (wn : Int))) 7 rfl rfl (hon 7 (by kernel_rfl)) rfl
        replace ha := Aside0.mk ha
        have HB := Aside0.mk Q_HB
        have ZB := Aside0.mk Q_ZB
        have B5 := Aside0.mk (Q_B5 (hoff 14 (by kernel_rfl)))
        have RV := Aside0.mk (Q_RV (hoff 12 (by kernel_rfl)))
        have y2 := YW.out
        have y3 := YS.out
        refine value_ (w1 := w') (v := .int .u64 M) (by rfl) rfl ?_ ?_
        · go_simp
          (try simp only [i64_w])
          try rfl
        refine hK.out _ _ ⟨ge, v1, m11_, (by rw [ha.out]; exact putSel_upk 8 hb_ rfl rfl rfl), Q_HB, Q_ZB, Q_B5, Q_RV, fun h0_ _ => absurd ((hoff 11 (by kernel_rfl)).symm.trans h0_) (by decide), fun h0_ => absurd ((hoff 12 (by kernel_rfl)).symm.trans h0_) (by decide), fun h0_ => absurd ((hoff 14 (by kernel_rfl)).symm.trans h0_) (by decide), fun h0_ => absurd ((hoff 11 (by kernel_rfl)).symm.trans h0_) (by decide)⟩
      refine steps_cons ?_ ?_
      · rintro b a w' ⟨ge, v1, m11_, ha, Q_HB, Q_ZB, Q_B5, Q_RV, Q_EB, Q_R1, Q_B6, Q_X11_⟩ hb_ hon hoff
        refine ⟨_, rfl, fun K hK => ?_⟩
        have e38 : a.tmps[38]? = some (.int .u64 M) := by rw [ha]; exact putSel_on (e := (8, 38, .int .u64 M)) 8 rfl rfl (hon 8 (by kernel_rfl)) rfl
        replace ha := Aside0.mk ha
        have HB := Aside0.mk Q_HB
        have ZB := Aside0.mk Q_ZB
        have B5 := Aside0.mk (Q_B5 (hoff 14 (by kernel_rfl)))
        have RV := Aside0.mk (Q_RV (hoff 12 (by kernel_rfl)))
        have y4 := YM.out
        refine value_ (w1 := w') (v := .int .u64 M1) (by rfl) rfl ?_ ?_
        · go_simp
          (try simp only [i64_w])
          try rfl
        refine hK.out _ _ ⟨ge, v1, m11_, (by rw [ha.out]; exact putSel_upk 9 hb_ rfl rfl rfl), Q_HB, Q_ZB, Q_B5, Q_RV, fun h0_ _ => absurd ((hoff 11 (by kernel_rfl)).symm.trans h0_) (by decide), fun h0_ => absurd ((hoff 12 (by kernel_rfl)).symm.trans h0_) (by decide), fun h0_ => absurd ((hoff 14 (by kernel_rfl)).symm.trans h0_) (by decide), fun h0_ => absurd ((hoff 11 (by kernel_rfl)).symm.trans h0_) (by decide)⟩
      refine steps_cons ?_ ?_
      · rintro b a w' ⟨ge, v1, m11_, ha, Q_HB, Q_ZB, Q_B5, Q_RV, Q_EB, Q_R1, Q_B6, Q_X11_⟩ hb_ hon hoff
        refine ⟨_, rfl, fun K hK => ?_⟩
        have e35 : a.tmps[35]? = some (.int .u64 x) := by rw [ha]; exact putSel_on (e := (5, 35, .int .u64 x)) 5 rfl rfl (hon 5 (by kernel_rfl)) rfl
        have e39 : a.tmps[39]? = some (.int .u64 M1) := by rw [ha]; exact putSel_on (e := (9, 39, .int .u64 M1)) 9 rfl rfl (hon 9 (by kernel_rfl)) rfl
        replace ha := Aside0.mk ha
        have HB := Aside0.mk Q_HB
        have ZB := Aside0.mk Q_ZB
        have B5 := Aside0.mk (Q_B5 (hoff 14 (by kernel_rfl)))
        have RV := Aside0.mk (Q_RV (hoff 12 (by kernel_rfl)))
        have y5 := YA.out
        refine value_ (w1 := w') (v := .int .u64 xm) (by rfl) rfl ?_ ?_
        · go_simp
          (try simp only [i64_w])
          try rfl
        refine hK.out _ _ ⟨ge, v1, m11_, (by rw [ha.out]; exact putSel_upk 10 hb_ rfl rfl rfl), Q_HB, Q_ZB, Q_B5, Q_RV, fun h0_ _ => absurd ((hoff 11 (by kernel_rfl)).symm.trans h0_) (by decide), fun h0_ => absurd ((hoff 12 (by kernel_rfl)).symm.trans h0_) (by decide), fun h0_ => absurd ((hoff 14 (by kernel_rfl)).symm.trans h0_) (by decide), fun h0_ => absurd ((hoff 11 (by kernel_rfl)).symm.trans h0_) (by decide)⟩
      refine steps_cons ?_ ?_
      · rintro b a w' ⟨ge, v1, m11_, ha, Q_HB, Q_ZB, Q_B5, Q_RV, Q_EB, Q_R1, Q_B6, Q_X11_⟩ hb_ hon hoff
        refine ⟨_, rfl, fun K hK => ?_⟩
        have e40 : a.tmps[40]? = some (.int .u64 xm) := by rw [ha]; exact putSel_on (e := (10, 40, .int .u64 xm)) 10 rfl rfl (hon 10 (by kernel_rfl)) rfl
        replace ha := Aside0.mk ha
        have HB := Aside0.mk Q_HB
        have ZB := Aside0.mk Q_ZB
        have B5 := Aside0.mk (Q_B5 (hoff 14 (by kernel_rfl)))
        have RV := Aside0.mk (Q_RV (hoff 12 (by kernel_rfl)))
        refine value_ (w1 := w'.alloc (.cells #[.int .u64 xm] 59)) (v := .slice (some ⟨w'.heap.size, 0, none⟩) 1 1) (by rfl) rfl ?_ ?_
        · go_simp
        refine hK.out _ _ ⟨w'.heap.size, v1, (.slice (some ⟨w'.heap.size, 0, none⟩) 1 1), (by rw [ha.out]; exact putSel_upk 11 hb_ rfl rfl rfl), bthen' HB.out (below_alloc (Below.refl _ w') _), ZB.out.alloc _, fun _ => B5.out.alloc _, fun _ => Kd.R_below RV.out (below_alloc (Below.refl _ w') _), fun _ _ => Blk.new w' _ _ rfl, fun h0_ => absurd ((hoff 12 (by kernel_rfl)).symm.trans h0_) (by decide), fun h0_ => absurd ((hoff 14 (by kernel_rfl)).symm.trans h0_) (by decide), fun _ => rfl⟩
      refine steps_cons ?_ ?_
      · rintro b a w' ⟨ge, v1, m11_, ha, Q_HB, Q_ZB, Q_B5, Q_RV, Q_EB, Q_R1, Q_B6, Q_X11_⟩ hb_ hon hoff
        refine ⟨_, rfl, fun K hK => ?_⟩
        have e31 : a.tmps[31]? = some (v) := by rw [ha]; exact putSel_on (e := (1, 31, v)) 1 rfl rfl (hon 1 (by kernel_rfl)) rfl
        have e41 : a.tmps[41]? = some (m11_) := by rw [ha]; exact putSel_on (e := (11, 41, m11_)) 11 rfl rfl (hon 11 (by kernel_rfl)) rfl
        rw [Q_X11_ (hon 11 (by kernel_rfl))] at e41
        replace ha := Aside0.mk ha
        have HB := Aside0.mk Q_HB
        have ZB := Aside0.mk Q_ZB
        have B5 := Aside0.mk (Q_B5 (hoff 14 (by kernel_rfl)))
        have RV := Aside0.mk (Q_RV hb_)
        have EB := Aside0.mk (Q_EB (hon 11 (by kernel_rfl)) hb_)
        obtain ⟨vv, w2, hr, o1, o2, o3⟩ := append_u64 RV.out HB.out HB.out.size ge xm EB.out RSL.out
        refine value_ (w1 := w2) (v := vv) (by rfl) rfl ?_ ?_
        · exact run_append_opU (by rfl) e31 e41 hr
        refine hK.out _ _ ⟨ge, vv, m11_, (by rw [ha.out]; exact putSel_upk 12 hb_ rfl rfl rfl), o2, (o3.block g4 ZB.out.lt N4.out).trans ZB.out, fun _ => (o3.block g5 B5.out.lt N5.out).trans B5.out, fun h0_ => absurd ((up_self b 12).symm.trans h0_) (by decide), fun _ h1_ => absurd ((up_self b 12).symm.trans h1_) (by decide), fun _ => o1, fun h0_ => absurd ((hoff 14 (by kernel_rfl)).symm.trans h0_) (by decide), Q_X11_⟩
      refine steps_cons ?_ ?_
      · rintro b a w' ⟨ge, v1, m11_, ha, Q_HB, Q_ZB, Q_B5, Q_RV, Q_EB, Q_R1, Q_B6, Q_X11_⟩ hb_ hon hoff
        refine ⟨_, rfl, fun K hK => ?_⟩
        have e5 : a.tmps[5]? = some (.pointer (some ⟨g5, 0, none⟩)) := by rw [ha]; exact (putSel_off rfl).trans rfl
        replace ha := Aside0.mk ha
        have HB := Aside0.mk Q_HB
        have ZB := Aside0.mk Q_ZB
        have B5 := Aside0.mk (Q_B5 (hoff 14 (by kernel_rfl)))
        have R1 := Aside0.mk (Q_R1 (hon 12 (by kernel_rfl)))
        refine value_ (w1 := w') (v := .pointer (some ⟨g5, 4, none⟩)) (by rfl) rfl ?_ ?_
        · go_simp
          (try simp only [i64_w])
          try rfl
        refine hK.out _ _ ⟨ge, v1, m11_, (by rw [ha.out]; exact putSel_upk 13 hb_ rfl rfl rfl), Q_HB, Q_ZB, Q_B5, fun h0_ => absurd ((hon 12 (by kernel_rfl)).symm.trans h0_) (by decide), fun _ h1_ => absurd ((hon 12 (by kernel_rfl)).symm.trans h1_) (by decide), Q_R1, fun h0_ => absurd ((hoff 14 (by kernel_rfl)).symm.trans h0_) (by decide), Q_X11_⟩
      refine steps_cons ?_ ?_
      · rintro b a w' ⟨ge, v1, m11_, ha, Q_HB, Q_ZB, Q_B5, Q_RV, Q_EB, Q_R1, Q_B6, Q_X11_⟩ hb_ hon hoff
        refine ⟨_, rfl, fun K hK => ?_⟩
        have e43 : a.tmps[43]? = some (.pointer (some ⟨g5, 4, none⟩)) := by rw [ha]; exact putSel_on (e := (13, 43, .pointer (some ⟨g5, 4, none⟩))) 13 rfl rfl (hon 13 (by kernel_rfl)) rfl
        have e42 : a.tmps[42]? = some (v1) := by rw [ha]; exact putSel_on (e := (12, 42, v1)) 12 rfl rfl (hon 12 (by kernel_rfl)) rfl
        replace ha := Aside0.mk ha
        have HB := Aside0.mk Q_HB
        have ZB := Aside0.mk Q_ZB
        have B5 := Aside0.mk (Q_B5 hb_)
        have R1 := Aside0.mk (Q_R1 (hon 12 (by kernel_rfl)))
        have q4 : w'.cell? ⟨g5, 4, none⟩ = some v := B5.out.cell 4
        have z4 := B5.out.frozen 4
        obtain ⟨A2, c2, hv2⟩ := Kd.R_slice R1.out
        have ho : v1.oneCell' = true := by rw [hv2]; rfl
        refine skip_ (w1 := w'.setCell ⟨g5, 4, none⟩ v1) (by rfl) rfl ?_ ?_
        · go_simp
        refine hK.out _ _ ⟨ge, v1, m11_, (by rw [ha.out]; exact putSel_none (v := undef) rfl), bset HB.out GE5.out 4 _, ZB.out.far N45.out 4 _, fun h0_ => absurd ((up_self b 14).symm.trans h0_) (by decide), fun h0_ => absurd ((hon 12 (by kernel_rfl)).symm.trans h0_) (by decide), fun _ h1_ => absurd ((hon 12 (by kernel_rfl)).symm.trans h1_) (by decide), fun _ => Kd.R_set R1.out B5.out (by decide) 4 _, fun _ => B5.out.put 4 _ rfl, Q_X11_⟩
      exact steps_nil
    · rintro b a w' hall ⟨ge, v1, m11_, ha, Q_HB, Q_ZB, Q_B5, Q_RV, Q_EB, Q_R1, Q_B6, Q_X11_⟩
      clear B5 HB RV ZB
      have hb0_ := hall 0 (by kernel_rfl)
      have hb1_ := hall 1 (by kernel_rfl)
      have hb2_ := hall 2 (by kernel_rfl)
      have hb3_ := hall 3 (by kernel_rfl)
      have hb4_ := hall 4 (by kernel_rfl)
      have hb5_ := hall 5 (by kernel_rfl)
      have hb6_ := hall 6 (by kernel_rfl)
      have hb7_ := hall 7 (by kernel_rfl)
      have hb8_ := hall 8 (by kernel_rfl)
      have hb9_ := hall 9 (by kernel_rfl)
      have hb10_ := hall 10 (by kernel_rfl)
      have hb11_ := hall 11 (by kernel_rfl)
      have hb12_ := hall 12 (by kernel_rfl)
      have hb13_ := hall 13 (by kernel_rfl)
      have hb14_ := hall 14 (by kernel_rfl)
      subst ha
      obtain rfl := Q_X11_ hb11_
      simp only [putSel, hb0_, hb1_, hb2_, hb3_, hb4_, hb5_, hb6_, hb7_, hb8_, hb9_, hb10_, hb11_, hb12_, hb13_, hb14_, if_true, Act.put, List.setIfInBounds_toArray, List.set_cons_zero, List.set_cons_succ]
      have HB := Aside0.mk Q_HB
      clear Q_HB
      have ZB := Aside0.mk Q_ZB
      clear Q_ZB
      clear Q_B5
      clear Q_RV
      clear Q_EB
      have R1 := Aside0.mk (Q_R1 hb12_)
      clear Q_R1
      have B6 := Aside0.mk (Q_B6 hb14_)
      clear Q_B6
      clear hall hb0_ hb1_ hb2_ hb3_ hb4_ hb5_ hb6_ hb7_ hb8_ hb9_ hb10_ hb11_ hb12_ hb13_ hb14_
      have e8 := E8.out
      have HTK' := HTK.out
      have HB := Lib.hid HB.out
      have ZB := Lib.hid ZB.out
      have B6 := Lib.hid B6.out
      have R1 := Lib.hid R1.out
      rw [← HTK'] at R1
      clear HTK'
      go_wp2_with fail
      go_roundw
      case rel => exact ⟨k + 1, v1, rfl, HK.out.1, HK.out.2, HB, ZB, B6, R1⟩
      case measure => have := HK.out; simp [intOf]; omega
  · have hkk : k = (l.take 20).length := by rw [List.length_take]; omega
    have htk : l.take k = l.take 20 := by
      rcases Nat.lt_or_ge l.length 20 with h | h
      · rw [List.take_of_length_le (by omega), List.take_of_length_le (by omega)]
      · rw [show k = 20 by omega]
    rw [htk] at RVr
    have hmk : ((l.take 20).map (mk wn)).length = k := by rw [List.length_map, ← hkk]
    have HN : Hid (l.take 20 = [] ↔ k = 0) := Lib.hid (by rw [hkk]; exact List.length_eq_zero_iff.symm)
    have HKE := Lib.hid hkk
    obtain ⟨rs, hrs⟩ : ∃ rs, (l.take 20).map (mk wn) = rs := ⟨_, rfl⟩
    rw [hrs] at RVr hmk hDB
    subst hmk
    obtain ⟨Av, cv, rfl⟩ := Kd.R_slice RVr.out
    clear htk hrs hkk
    have d3 : rs.length ≤ 20 := hk20
    have hk' : ¬ (rs.length < l.length ∧ rs.length < 20) := hk
    obtain ⟨dd, hdd⟩ : ∃ dd, decide (rs.length < l.length) = dd := ⟨_, rfl⟩
    have d2 : dd = true → decide ((rs.length : Int) < 20) = false := fun h => decide_eq_false (by have := of_decide_eq_true (hdd.trans h); omega)
    clear hk hk' hkl hk20
    cases dd
    · clear d2
      go_upto_region 6 with fail
      have q3 : wr.cell? ⟨g5, 3, none⟩ = some (.int .i64 0) := B5r.out.cell 3
      have q4 : wr.cell? ⟨g5, 4, none⟩ = some (.slice Av rs.length cv) := B5r.out.cell 4
      have y3 := B5r.out.frozen 3
      go_upto_region 7 with fail
      have BH := Lib.hid (show Blk _ g5 #[.int .i64 bL, .int .i64 bT, .int .i64 (wn : Int), .int .i64 rs.length, .slice Av rs.length cv] 36 from B5r.out.put 3 (.int .i64 rs.length) rfl)
      have ZH := Lib.hid (ZBr.out.far N45.out 3 (.int .i64 rs.length))
      have RH := Lib.hid (Kd.R_set RVr.out B5r.out (by decide) 3 (.int .i64 rs.length))
      have HBH := Lib.hid (bset HBr.out GE5.out 3 (.int .i64 rs.length))
      clear q3 q4 y3 B5r ZBr RVr HBr
      generalize World.setCell _ _ _ = w6 at *
      have q3 : w6.cell? ⟨g5, 3, none⟩ = some (.int .i64 rs.length) := BH.out.cell 3
      by_cases h0 : rs.length = 0
      · have hz : ((rs.length : Int) == 0) = true := beq_iff_eq.mpr (by omega)
        have HZZ := Lib.hid (HN.out.2 h0)
        clear h0
        have f0 := ZH.out.cell 0
        have f1 := ZH.out.cell 1
        have f2 := ZH.out.cell 2
        have f3 := ZH.out.cell 3
        have f4 := ZH.out.cell 4
        simp only [List.getElem?_toArray, List.getElem?_cons_zero, List.getElem?_cons_succ] at f0 f1 f2 f3 f4
        have z0 := ZH.out.frozen 0
        have z1 := ZH.out.frozen 1
        have z2 := ZH.out.frozen 2
        have z3 := ZH.out.frozen 3
        have z4 := ZH.out.frozen 4
        go_wp2_with fail
        have BF := Lib.hid (((((ZH.out.put 0 (.int .i64 0) rfl).put 1 (.int .i64 0) rfl).put 2 (.int .i64 0) rfl).put 3 (.int .i64 0) rfl).put 4 (.slice none 0 0) rfl)
        have HBF := Lib.hid (bset (bset (bset (bset (bset HBH.out GE4.out 0 (.int .i64 0)) GE4.out 1 (.int .i64 0)) GE4.out 2 (.int .i64 0)) GE4.out 3 (.int .i64 0)) GE4.out 4 (.slice none 0 0))
        have HD : drawB q0 q1 q2 l = Bm.zero := by rw [hDB.out, if_pos HZZ.out]
        rw [HD]
        refine bodyPost_ret (res_c (g := g4) rfl _ _ _ _ _ rfl BF.out rfl hu36 (by kernel_rfl)) rfl ⟨_, rfl, Kd.R_nil _ _ _ _ _, HBF.out⟩
      · have hz : ((rs.length : Int) == 0) = false := beq_eq_false_iff_ne.mpr (by omega)
        have HZZ : Hid (¬ l.take 20 = []) := Lib.hid (fun e => h0 (HN.out.1 e))
        clear h0
        clear q3
        have cq0 := BH.out.cell 0
        have cq1 := BH.out.cell 1
        have cq2 := BH.out.cell 2
        have cq3 := BH.out.cell 3
        have cq4 := BH.out.cell 4
        simp only [List.getElem?_toArray, List.getElem?_cons_zero, List.getElem?_cons_succ] at cq0 cq1 cq2 cq3 cq4
        have f0 := ZH.out.cell 0
        have f1 := ZH.out.cell 1
        have f2 := ZH.out.cell 2
        have f3 := ZH.out.cell 3
        have f4 := ZH.out.cell 4
        simp only [List.getElem?_toArray, List.getElem?_cons_zero, List.getElem?_cons_succ] at f0 f1 f2 f3 f4
        have z0 := ZH.out.frozen 0
        have z1 := ZH.out.frozen 1
        have z2 := ZH.out.frozen 2
        have z3 := ZH.out.frozen 3
        have z4 := ZH.out.frozen 4
        go_wp2_with fail
        have BF := Lib.hid (((((ZH.out.put 0 (.int .i64 bL) rfl).put 1 (.int .i64 bT) rfl).put 2 (.int .i64 (wn : Int)) rfl).put 3 (.int .i64 rs.length) rfl).put 4 (.slice Av rs.length cv) rfl)
        have HBF := Lib.hid (bset (bset (bset (bset (bset HBH.out GE4.out 0 (.int .i64 bL)) GE4.out 1 (.int .i64 bT)) GE4.out 2 (.int .i64 (wn : Int))) GE4.out 3 (.int .i64 rs.length)) GE4.out 4 (.slice Av rs.length cv))
        have RF := Lib.hid (R_put5 RH.out ZH.out (by decide) (.int .i64 bL) (.int .i64 bT) (.int .i64 (wn : Int)) (.int .i64 rs.length) (.slice Av rs.length cv))
        have HD : drawB q0 q1 q2 l = ⟨bL, bT, wn, rs.length, rs⟩ := by rw [hDB.out, if_neg HZZ.out, ← HKE.out]
        rw [HD]
        refine bodyPost_ret (res_c (g := g4) rfl _ _ _ _ _ rfl BF.out rfl hu36 (by kernel_rfl)) rfl ⟨_, rfl, RF.out, HBF.out⟩
    · have d2' := d2 rfl
      clear d2
      go_upto_region 6 with fail
      have q3 : wr.cell? ⟨g5, 3, none⟩ = some (.int .i64 0) := B5r.out.cell 3
      have q4 : wr.cell? ⟨g5, 4, none⟩ = some (.slice Av rs.length cv) := B5r.out.cell 4
      have y3 := B5r.out.frozen 3
      go_upto_region 7 with fail
      have BH := Lib.hid (show Blk _ g5 #[.int .i64 bL, .int .i64 bT, .int .i64 (wn : Int), .int .i64 rs.length, .slice Av rs.length cv] 36 from B5r.out.put 3 (.int .i64 rs.length) rfl)
      have ZH := Lib.hid (ZBr.out.far N45.out 3 (.int .i64 rs.length))
      have RH := Lib.hid (Kd.R_set RVr.out B5r.out (by decide) 3 (.int .i64 rs.length))
      have HBH := Lib.hid (bset HBr.out GE5.out 3 (.int .i64 rs.length))
      clear q3 q4 y3 B5r ZBr RVr HBr
      generalize World.setCell _ _ _ = w6 at *
      have q3 : w6.cell? ⟨g5, 3, none⟩ = some (.int .i64 rs.length) := BH.out.cell 3
      by_cases h0 : rs.length = 0
      · have hz : ((rs.length : Int) == 0) = true := beq_iff_eq.mpr (by omega)
        have HZZ := Lib.hid (HN.out.2 h0)
        clear h0
        have f0 := ZH.out.cell 0
        have f1 := ZH.out.cell 1
        have f2 := ZH.out.cell 2
        have f3 := ZH.out.cell 3
        have f4 := ZH.out.cell 4
        simp only [List.getElem?_toArray, List.getElem?_cons_zero, List.getElem?_cons_succ] at f0 f1 f2 f3 f4
        have z0 := ZH.out.frozen 0
        have z1 := ZH.out.frozen 1
        have z2 := ZH.out.frozen 2
        have z3 := ZH.out.frozen 3
        have z4 := ZH.out.frozen 4
        go_wp2_with fail
        have BF := Lib.hid (((((ZH.out.put 0 (.int .i64 0) rfl).put 1 (.int .i64 0) rfl).put 2 (.int .i64 0) rfl).put 3 (.int .i64 0) rfl).put 4 (.slice none 0 0) rfl)
        have HBF := Lib.hid (bset (bset (bset (bset (bset HBH.out GE4.out 0 (.int .i64 0)) GE4.out 1 (.int .i64 0)) GE4.out 2 (.int .i64 0)) GE4.out 3 (.int .i64 0)) GE4.out 4 (.slice none 0 0))
        have HD : drawB q0 q1 q2 l = Bm.zero := by rw [hDB.out, if_pos HZZ.out]
        rw [HD]
        refine bodyPost_ret (res_c (g := g4) rfl _ _ _ _ _ rfl BF.out rfl hu36 (by kernel_rfl)) rfl ⟨_, rfl, Kd.R_nil _ _ _ _ _, HBF.out⟩
      · have hz : ((rs.length : Int) == 0) = false := beq_eq_false_iff_ne.mpr (by omega)
        have HZZ : Hid (¬ l.take 20 = []) := Lib.hid (fun e => h0 (HN.out.1 e))
        clear h0
        clear q3
        have cq0 := BH.out.cell 0
        have cq1 := BH.out.cell 1
        have cq2 := BH.out.cell 2
        have cq3 := BH.out.cell 3
        have cq4 := BH.out.cell 4
        simp only [List.getElem?_toArray, List.getElem?_cons_zero, List.getElem?_cons_succ] at cq0 cq1 cq2 cq3 cq4
        have f0 := ZH.out.cell 0
        have f1 := ZH.out.cell 1
        have f2 := ZH.out.cell 2
        have f3 := ZH.out.cell 3
        have f4 := ZH.out.cell 4
        simp only [List.getElem?_toArray, List.getElem?_cons_zero, List.getElem?_cons_succ] at f0 f1 f2 f3 f4
        have z0 := ZH.out.frozen 0
        have z1 := ZH.out.frozen 1
        have z2 := ZH.out.frozen 2
        have z3 := ZH.out.frozen 3
        have z4 := ZH.out.frozen 4
        go_wp2_with fail
        have BF := Lib.hid (((((ZH.out.put 0 (.int .i64 bL) rfl).put 1 (.int .i64 bT) rfl).put 2 (.int .i64 (wn : Int)) rfl).put 3 (.int .i64 rs.length) rfl).put 4 (.slice Av rs.length cv) rfl)
        have HBF := Lib.hid (bset (bset (bset (bset (bset HBH.out GE4.out 0 (.int .i64 bL)) GE4.out 1 (.int .i64 bT)) GE4.out 2 (.int .i64 (wn : Int))) GE4.out 3 (.int .i64 rs.length)) GE4.out 4 (.slice Av rs.length cv))
        have RF := Lib.hid (R_put5 RH.out ZH.out (by decide) (.int .i64 bL) (.int .i64 bT) (.int .i64 (wn : Int)) (.int .i64 rs.length) (.slice Av rs.length cv))
        have HD : drawB q0 q1 q2 l = ⟨bL, bT, wn, rs.length, rs⟩ := by rw [hDB.out, if_neg HZZ.out, ← HKE.out]
        rw [HD]
        refine bodyPost_ret (res_c (g := g4) rfl _ _ _ _ _ rfl BF.out rfl hu36 (by kernel_rfl)) rfl ⟨_, rfl, RF.out, HBF.out⟩
end Go.Proofs.YtleljodcdbhifaaDoor
