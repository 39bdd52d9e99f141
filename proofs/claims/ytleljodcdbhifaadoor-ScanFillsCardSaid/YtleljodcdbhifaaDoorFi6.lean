/- ScRfR, ScRfV, ScRfT, ScRfU, ScRfW, ScRfN, ScRfF, ScFew, ScFills: merged by wip/prune.py. -/
import Derived.Test.YtleljodcdbhifaaDoorWInvWords
import Derived.Test.YtleljodcdbhifaaDoorFi2
import Derived.Test.YtleljodcdbhifaaDoorFi4
import Derived.Test.YtleljodcdbhifaaDoorFi5
/- The reference's Right, at bitmaps that are right. -/
set_option linter.unusedVariables false
set_option linter.unusedSimpArgs false
namespace Go.Proofs.YtleljodcdbhifaaDoor
open Go.RowKit Go.Proofs.YtleljodcdbhifaaDoorW.PrintWords Go.Proofs.YtleljodcdbhifaaDoorW.PrintLast Go.Proofs.YtleljodcdbhifaaDoorW.PrintMore Hy
theorem fit_lt {wn : Nat} {r : Int} (hr : u64 r) (h : fitB wn r = false) : r.toNat < 2 ^ wn := by
  unfold u64 at hr
  unfold fitB at h
  have h1 : Lib.bitLen r.toNat ≤ wn := by have := of_decide_eq_false h; omega
  exact (bitLen_le_iff (by omega)).1 h1
theorem fit_shr {wn : Nat} {r : Int} (hr : u64 r) (h : fitB wn r = false) : r / 2 ^ wn = 0 := by
  have h2 := fit_lt hr h
  unfold u64 at hr
  obtain ⟨n, rfl⟩ : ∃ n : Nat, r = n := ⟨r.toNat, by omega⟩
  rw [Int.toNat_natCast] at h2
  rw [show (2 : Int) ^ wn = ((2 ^ wn : Nat) : Int) by simp, ← Int.natCast_ediv, Nat.div_eq_of_lt h2]
  rfl
set_option maxRecDepth 100000 in
set_option maxHeartbeats 4000000 in
theorem rightR_any (L T : Int) (wn hn : Nat) (A : Option Addr) (c : Nat) (l : List Int) (w : World) (hr : Kd.C (Kd.int .u64) w A l.length l) (hu : ∀ r ∈ l, u64 r) (hW : 1 ≤ wn ∧ wn ≤ 64) (hH : 1 ≤ hn ∧ hn ≤ 64) (hl : l.length = hn) (hL : -10000 ≤ L ∧ L ≤ 10001 - wn) (hT : -10000 ≤ T ∧ T ≤ 10001 - hn) (hf : ∀ r ∈ l, fitB wn r = false) :
    Calls Tryd.prog 54 #[.agg #[.int .i64 L, .int .i64 T, .int .i64 wn, .int .i64 hn, .slice A l.length c]] w fun e w' => e = .returned (.bool true) ∧ Below w.heap.size w w' := by
  subst hl
  have HR := Lib.hid hr
  have HF : Hid (∀ k, k < l.length → rd l (k : Int) / 2 ^ wn = 0) := Lib.hid fun k hk => by
    have hin : rd l (k : Int) ∈ l := (by unfold rd; rw [Int.toNat_natCast, List.getD_eq_getElem?_getD, List.getElem?_eq_getElem hk]; exact List.getElem_mem hk)
    exact fit_shr (hu _ hin) (hf _ hin)
  clear hr hu hf
  have d1 : ((wn : Int) == 0) = false := beq_eq_false_iff_ne.2 (by omega)
  have d2 : decide ((wn : Int) < 1) = false := decide_eq_false (by omega)
  have d3 : decide (64 < (wn : Int)) = false := decide_eq_false (by omega)
  have d4 : decide ((l.length : Int) < 1) = false := decide_eq_false (by omega)
  have d5 : decide (64 < (l.length : Int)) = false := decide_eq_false (by omega)
  have d6 : ((l.length : Int) != (l.length : Int)) = false := by simp
  have d7 : decide (L < -10000) = false := decide_eq_false (by omega)
  have d8 : decide (10001 - (wn : Int) < L) = false := decide_eq_false (by omega)
  have d9 : decide (T < -10000) = false := decide_eq_false (by omega)
  have d0 : decide (10001 - (l.length : Int) < T) = false := decide_eq_false (by omega)
  go_enter Tryd.func54, Tryd.ntmps54
  go_upto_region 1 with fail
  obtain ⟨w1, g, hw, hg, B, HB, _⟩ := new_box w #[.int .i64 L, .int .i64 T, .int .i64 (wn : Int), .int .i64 (l.length : Int), .slice A l.length c] 36
  rw [hw, hg]
  clear hw hg
  have c0 := B.out.cell 0
  have c1 := B.out.cell 1
  have c2 := B.out.cell 2
  have c3 := B.out.cell 3
  have c4 := B.out.cell 4
  simp only [List.getElem?_toArray, List.getElem?_cons_zero, List.getElem?_cons_succ] at c0 c1 c2 c3 c4
  go_wp2_with fail
  clear d1 d2 d3 d4 d5 d6 d7 d8 d9 d0 c0 c1 c2 c3 c4
  go_loopw [3] (fun i wr => ∃ k : Nat, i = .int .i64 k ∧ k ≤ l.length ∧ Hid (Below w1.heap.size w1 wr)) (fun i _ => l.length - (intOf i).toNat)
  case atStart => exact ⟨0, rfl, Nat.zero_le _, Lib.hid (Below.refl _ _)⟩
  case round =>
    obtain ⟨k, rfl, hk, HBr⟩ := hrel
    have Br := Lib.hid (B.out.below HBr.out)
    have c2 := Br.out.cell 2
    have c4 := Br.out.cell 4
    simp only [List.getElem?_toArray, List.getElem?_cons_zero, List.getElem?_cons_succ] at c2 c4
    by_cases hlt : k < l.length
    · have d1 : decide (k < l.length) = true := decide_eq_true hlt
      obtain ⟨ad, rfl, h1⟩ := Kd.at_int HR.out (k : Int) (by omega) (by omega)
      rw [Int.toNat_natCast] at h1
      have h2 := HF.out k hlt
      generalize rd l (k : Int) = x at *
      replace h1 := pw_cell_below (bthen' HB.out HBr.out) h1
      have b0 : (0 : Int) ≤ (k : Int) := by omega
      have b1 : (k : Int) < (l.length : Int) := by omega
      by_cases hw64 : (wn : Int) < 64
      · have d2 : decide ((wn : Int) < 64) = true := decide_eq_true hw64
        have b2 : (0 : Int) ≤ (wn : Int) := by omega
        clear hw64
        go_wp2_with fail
        go_quiet (fail)
        have HBq := Lib.hid (bdrewN HBr.out nq)
        clear HBr h1 h2 c2 c4 d2 Br
        generalize wr.drewN nq = wq at *
        go_wp2_with fail
        exact ⟨⟨k + 1, by go_num, by omega, HBq⟩, by simp [intOf]; omega⟩
      · have d2 : decide ((wn : Int) < 64) = false := decide_eq_false hw64
        clear hw64 h2
        go_wp2_with fail
        go_quiet (fail)
        have HBq := Lib.hid (bdrewN HBr.out nq)
        clear HBr h1 c2 c4 d2 Br
        generalize wr.drewN nq = wq at *
        go_wp2_with fail
        exact ⟨⟨k + 1, by go_num, by omega, HBq⟩, by simp [intOf]; omega⟩
    · have d1 : decide (k < l.length) = false := decide_eq_false hlt
      have HE := Lib.hid (bthen' HB.out HBr.out)
      clear hlt
      go_wp2_with fail
      go_ret
      exact ⟨rfl, HE.out⟩
end Go.Proofs.YtleljodcdbhifaaDoor
/- What the reference's Trim finds, plain: the least and the greatest place of a pixel. -/
set_option linter.unusedVariables false
set_option linter.unusedSimpArgs false
namespace Go.Proofs.YtleljodcdbhifaaDoor
open Go.RowKit Go.Proofs.YtleljodcdbhifaaDoorW.PrintWords Go.Proofs.YtleljodcdbhifaaDoorW.PrintLast Go.Proofs.YtleljodcdbhifaaDoorW.PrintMore Hy
def PX (l : List Int) (y x : Nat) : Bool := (l.getD y 0).toNat.testBit x
/-- the pixels of the first k rows, and of the next one the first j -/
def SN (l : List Int) (wn k j : Nat) (y x : Nat) : Prop := PX l y x = true ∧ x < wn ∧ (y < k ∨ (y = k ∧ x < j))
def Ext (S : Nat → Nat → Prop) (a e t b : Int) : Prop :=
  (∀ y x, S y x → a ≤ x ∧ (x : Int) ≤ e ∧ t ≤ y ∧ (y : Int) ≤ b) ∧
  ((a = 64 ∧ e = -1 ∧ t = 64 ∧ b = -1 ∧ ∀ y x, ¬ S y x) ∨ ((∃ y x, S y x ∧ a = x) ∧ (∃ y x, S y x ∧ e = x) ∧ (∃ y x, S y x ∧ t = y) ∧ (∃ y x, S y x ∧ b = y)))
theorem Ext.same {S S' : Nat → Nat → Prop} {a e t b : Int} (h : Ext S a e t b) (hs : ∀ y x, S' y x ↔ S y x) : Ext S' a e t b := by
  have : S' = S := by funext y x; exact propext (hs y x)
  rw [this]
  exact h
theorem Ext.step {S S' : Nat → Nat → Prop} {a e t b : Int} (h : Ext S a e t b) (y0 x0 : Nat) (hx : x0 < 64) (hy : y0 < 64) (hs : ∀ y x, S' y x ↔ (S y x ∨ (y = y0 ∧ x = x0))) : Ext S' (min a x0) (max e x0) (min t y0) (max b y0) := by
  obtain ⟨h1, h2⟩ := h
  have hin : S' y0 x0 := (hs _ _).2 (.inr ⟨rfl, rfl⟩)
  refine ⟨fun y x h => ?_, .inr ?_⟩
  · rcases (hs _ _).1 h with h | ⟨rfl, rfl⟩
    · have := h1 _ _ h
      omega
    · omega
  · rcases h2 with ⟨rfl, rfl, rfl, rfl, _⟩ | ⟨⟨ya, xa, sa, ea⟩, ⟨ye, xe, se, ee⟩, ⟨yt, xt, st, et⟩, yb, xb, sb, eb⟩
    · exact ⟨⟨y0, x0, hin, by omega⟩, ⟨y0, x0, hin, by omega⟩, ⟨y0, x0, hin, by omega⟩, y0, x0, hin, by omega⟩
    · refine ⟨?_, ?_, ?_, ?_⟩
      · rcases Int.le_total a x0 with k | k
        · exact ⟨ya, xa, (hs _ _).2 (.inl sa), by omega⟩
        · exact ⟨y0, x0, hin, by omega⟩
      · rcases Int.le_total e x0 with k | k
        · exact ⟨y0, x0, hin, by omega⟩
        · exact ⟨ye, xe, (hs _ _).2 (.inl se), by omega⟩
      · rcases Int.le_total t y0 with k | k
        · exact ⟨yt, xt, (hs _ _).2 (.inl st), by omega⟩
        · exact ⟨y0, x0, hin, by omega⟩
      · rcases Int.le_total b y0 with k | k
        · exact ⟨y0, x0, hin, by omega⟩
        · exact ⟨yb, xb, (hs _ _).2 (.inl sb), by omega⟩
theorem ext_start (l : List Int) (wn : Nat) : Ext (SN l wn 0 0) 64 (-1) 64 (-1) :=
  ⟨fun y x h => by obtain ⟨_, _, h | ⟨_, h⟩⟩ := h <;> omega, .inl ⟨rfl, rfl, rfl, rfl, fun y x h => by obtain ⟨_, _, h | ⟨_, h⟩⟩ := h <;> omega⟩⟩
theorem ext_on {l : List Int} {wn k j : Nat} {a e t b : Int} (h : Ext (SN l wn k j) a e t b) (hj : j < wn) (hw : wn ≤ 64) (hk : k < 64) (hp : PX l k j = true) : Ext (SN l wn k (j + 1)) (min a j) (max e j) (min t k) (max b k) :=
  h.step k j (by omega) hk fun y x => by
    unfold SN
    constructor
    · rintro ⟨h1, h2, h3 | ⟨rfl, h3⟩⟩
      · exact .inl ⟨h1, h2, .inl h3⟩
      · rcases Nat.lt_or_ge x j with h4 | h4
        · exact .inl ⟨h1, h2, .inr ⟨rfl, h4⟩⟩
        · exact .inr ⟨rfl, by omega⟩
    · rintro (⟨h1, h2, h3 | ⟨rfl, h3⟩⟩ | ⟨rfl, rfl⟩)
      · exact ⟨h1, h2, .inl h3⟩
      · exact ⟨h1, h2, .inr ⟨rfl, by omega⟩⟩
      · exact ⟨hp, hj, .inr ⟨rfl, by omega⟩⟩
theorem ext_off {l : List Int} {wn k j : Nat} {a e t b : Int} (h : Ext (SN l wn k j) a e t b) (hp : PX l k j = false) : Ext (SN l wn k (j + 1)) a e t b :=
  h.same fun y x => by
    unfold SN
    constructor
    · rintro ⟨h1, h2, h3 | ⟨rfl, h3⟩⟩
      · exact ⟨h1, h2, .inl h3⟩
      · refine ⟨h1, h2, .inr ⟨rfl, ?_⟩⟩
        rcases Nat.lt_or_ge x j with h4 | h4
        · exact h4
        · rw [show x = j by omega, hp] at h1
          cases h1
    · rintro ⟨h1, h2, h3 | ⟨rfl, h3⟩⟩
      · exact ⟨h1, h2, .inl h3⟩
      · exact ⟨h1, h2, .inr ⟨rfl, by omega⟩⟩
theorem ext_row {l : List Int} {wn k : Nat} {a e t b : Int} (h : Ext (SN l wn k wn) a e t b) : Ext (SN l wn (k + 1) 0) a e t b :=
  h.same fun y x => by
    unfold SN
    constructor
    · rintro ⟨h1, h2, h3 | ⟨rfl, h3⟩⟩
      · rcases Nat.lt_or_ge y k with h4 | h4
        · exact ⟨h1, h2, .inl h4⟩
        · exact ⟨h1, h2, .inr ⟨by omega, h2⟩⟩
      · omega
    · rintro ⟨h1, h2, h3 | ⟨rfl, h3⟩⟩
      · exact ⟨h1, h2, .inl (by omega)⟩
      · exact ⟨h1, h2, .inl (by omega)⟩
theorem ex_bit {n : Nat} (h : n ≠ 0) : ∃ i, n.testBit i = true := Nat.exists_testBit_of_ne_zero h
theorem ext_zero {b : Bm} {wn : Nat} {a e t o : Int} (h : Ext (SN b.rows wn b.rows.length 0) a e t o) (h0 : orN b.rows = 0) : e = -1 := by
  rcases h.2 with h | ⟨⟨y, x, ⟨h1, _⟩, _⟩, _⟩
  · exact h.2.1
  · unfold PX at h1
    rw [row_bit (by rw [h0]; exact Nat.zero_testBit x)] at h1
    cases h1
theorem ext_end {b : Bm} (t : Tr b) {wn : Nat} (hw : b.W = wn) {a e p o : Int} (h : Ext (SN b.rows wn b.rows.length 0) a e p o) : a = t.z ∧ e = t.n - 1 ∧ p = t.f ∧ o = t.e := by
  have hin : ∀ y x, PX b.rows y x = true → SN b.rows wn b.rows.length 0 y x := by
    intro y x hp
    have hxn : x < t.n := by
      rcases Nat.lt_or_ge x t.n with k | k
      · exact k
      · have hb : (orN b.rows).testBit x = false := Nat.testBit_lt_two_pow (Nat.lt_of_lt_of_le t.hi (Nat.pow_le_pow_right (by decide) k))
        unfold PX at hp
        rw [row_bit hb] at hp
        cases hp
    have hy : y < b.rows.length := by
      rcases Nat.lt_or_ge y b.rows.length with k | k
      · exact k
      · unfold PX at hp
        rw [List.getD_eq_getElem?_getD, List.getElem?_eq_none k] at hp
        simp at hp
    exact ⟨hp, by have := t.nW; omega, .inl hy⟩
  have hcol : ∀ x, (orN b.rows).testBit x = true → ∃ y, SN b.rows wn b.rows.length 0 y x := by
    intro x hx
    obtain ⟨r, hr, hb⟩ := (orN_bit _ _).1 hx
    obtain ⟨y, _, rfl⟩ := mem_getD hr
    exact ⟨y, hin y x hb⟩
  have hbit : ∀ y x, SN b.rows wn b.rows.length 0 y x → (orN b.rows).testBit x = true := by
    rintro y x ⟨hp, _, _⟩
    cases hb : (orN b.rows).testBit x
    · unfold PX at hp
      rw [row_bit hb] at hp
      cases hp
    · rfl
  obtain ⟨ht1, ht2⟩ : t.n - 1 < t.n ∧ (orN b.rows).testBit (t.n - 1) = true := by
    have h1 := t.top
    have h2 := t.hi
    have h3 := t.zn
    refine ⟨by omega, ?_⟩
    have hd : orN b.rows / 2 ^ (t.n - 1) = 1 := by
      have e1 : 2 ^ t.n = 2 ^ (t.n - 1) * 2 := by rw [← Nat.pow_succ]; congr 1; omega
      refine Nat.div_eq_of_lt_le (by omega) (by rw [e1] at h2; omega)
    rw [Nat.testBit_eq_decide_div_mod_eq, hd]
    rfl
  obtain ⟨xf, hf⟩ := ex_bit t.fnz
  obtain ⟨xe, he⟩ := ex_bit t.enz
  obtain ⟨yz, hz⟩ := hcol _ t.at_z
  obtain ⟨yn, hn⟩ := hcol _ ht2
  have Sf := hin t.f xf hf
  have Se := hin t.e xe he
  obtain ⟨h1, h2⟩ := h
  rcases h2 with ⟨_, _, _, _, h2⟩ | ⟨⟨ya, xa, sa, ea⟩, ⟨ye, xe', se, ee⟩, ⟨yt, xt, st, et⟩, yb, xb, sb, eb⟩
  · exact absurd Sf (h2 _ _)
  · have c1 := h1 _ _ hz
    have c2 := h1 _ _ hn
    have c3 := h1 _ _ Sf
    have c4 := h1 _ _ Se
    refine ⟨?_, ?_, ?_, ?_⟩
    · have : t.z ≤ xa := by
        rcases Nat.lt_or_ge xa t.z with k | k
        · have := hbit _ _ sa; rw [t.lo _ k] at this; cases this
        · exact k
      omega
    · have : xe' < t.n := by
        rcases Nat.lt_or_ge xe' t.n with k | k
        · exact k
        · have := hbit _ _ se
          rw [Nat.testBit_lt_two_pow (Nat.lt_of_lt_of_le t.hi (Nat.pow_le_pow_right (by decide) k))] at this
          cases this
      omega
    · have : t.f ≤ yt := by
        rcases Nat.lt_or_ge yt t.f with k | k
        · have h3 := st.1; unfold PX at h3; rw [t.bef _ k, Nat.zero_testBit] at h3; cases h3
        · exact k
      omega
    · have : yb ≤ t.e := by
        rcases Nat.lt_or_ge t.e yb with k | k
        · have h3 := sb.1; unfold PX at h3; rw [t.aft _ k, Nat.zero_testBit] at h3; cases h3
        · exact k
      omega
theorem px_bits {l : List Int} {y x : Nat} (hu : u64 (l.getD y 0)) : bits BinOp.and IntKind.u64 (l.getD y 0 / 2 ^ x) 1 = if PX l y x = true then 1 else 0 := by
  unfold PX
  unfold u64 at hu
  obtain ⟨n, hn⟩ : ∃ n : Nat, l.getD y 0 = n := ⟨(l.getD y 0).toNat, by omega⟩
  rw [hn] at hu ⊢
  rw [Int.toNat_natCast, show ((n : Int) / 2 ^ x) = ((n / 2 ^ x : Nat) : Int) by simp [Int.natCast_ediv]]
  have hle : n / 2 ^ x ≤ n := Nat.div_le_self _ _
  have h := bits_and_u64_nat (n / 2 ^ x) 1 (by omega) (by omega)
  rw [show ((1 : Nat) : Int) = 1 from rfl] at h
  rw [h, Nat.and_one_is_mod, Nat.testBit_eq_decide_div_mod_eq]
  have := Nat.mod_two_eq_zero_or_one (n / 2 ^ x)
  rcases this with k | k <;> rw [k] <;> simp
end Go.Proofs.YtleljodcdbhifaaDoor
/- The reference's pieces: walked. -/
set_option linter.unusedVariables false
set_option linter.unusedSimpArgs false
namespace Go.Proofs.YtleljodcdbhifaaDoor
open Go.RowKit Go.Proofs.YtleljodcdbhifaaDoorW.PrintWords Go.Proofs.YtleljodcdbhifaaDoorW.PrintLast Go.Proofs.YtleljodcdbhifaaDoorW.PrintMore Hy
attribute [local go_sem ↓] Go.wp_at_zero Go.wp_at_succ
def rfPcs.T9 : Bool × List (List Nat × List Nat) := (true, [([], []), ([], []), ([], []), ([1, 2], [1, 2]), ([3], [3]), ([4], [4]), ([], []), ([6], [6]), ([5, 7], [5, 7]), ([], []), ([], []), ([9, 10], [9, 10]), ([11], [11]), ([12], [12]), ([], []), ([14], [14]), ([13, 15], [13, 15]), ([8, 16], [8, 16]), ([17], [17]), ([0, 18], [0, 18]), ([19, 19, 0, 1, 2, 3, 4, 5, 6, 7, 8, 9, 10, 11, 12, 13, 14, 15, 16, 17, 18, 19], [0, 19])])
def rfPcs.B9 : List Nat := [0, 0, 0, 6, 14, 30, 0, 64, 254, 0, 0, 1536, 3584, 7680, 0, 16384, 65024, 131070, 262142, 524287, 1048575]
theorem rfPcs.tab9 : rtab .any (opsOf Tryd.f51 9) = rfPcs.T9 := by kernel_rfl
theorem rfPcs.bits9 : waitsOk rfPcs.T9.2 rfPcs.B9 = true := by kernel_rfl
def rfPcs.T20 : Bool × List (List Nat × List Nat) := (true, [([], []), ([], []), ([], []), ([], []), ([], []), ([4], [4]), ([], []), ([5, 6], [5, 6]), ([3, 7], [3, 7]), ([8], [8]), ([1, 2, 9], [1, 2, 9]), ([10], [10]), ([0, 11], [0, 11]), ([12, 12, 0, 1, 2, 3, 4, 5, 6, 7, 8, 9, 10, 11, 12], [0, 12])])
def rfPcs.B20 : List Nat := [0, 0, 0, 0, 0, 16, 0, 112, 248, 504, 1022, 2046, 4095, 8191]
theorem rfPcs.tab20 : rtab .any (opsOf Tryd.f51 20) = rfPcs.T20 := by kernel_rfl
theorem rfPcs.bits20 : waitsOk rfPcs.T20.2 rfPcs.B20 = true := by kernel_rfl
/-- one element appended, made in block g -/
theorem append_kd {α : Type} {d : Kd α} {w0 w : World} {base : Nat} {v : Value} {xs : List α} (t e : TypeId) (z : Value) (bytes : Nat) (ht : Tryd.prog.underlying t = some (.slice e)) (hinfo : (Tryd.prog.info? e).map (fun i => (i.zero, i.size, i.bytes)) = some (some z, d.sz, bytes)) (hz : z.cells.size = d.sz) (hs0 : 0 < d.sz) (hb0 : 0 < bytes)
    (hR : d.R e w base (fun _ => True) v xs) (hB : Below base w0 w) (hbase : base ≤ w.heap.size) (g : Nat) (p : α) (cs : List Value) (hblk : Blk w g cs.toArray e) (hp : d.M w base (fun _ => False) p cs) (hl : (xs.length + 1) * bytes ≤ 140737488355328) :
    ∃ v' w', (Builtin.append_ #[t, t] t #[v, .slice (some ⟨g, 0, none⟩) 1 1]).run Tryd.prog w = .ok v' w' ∧ d.R e w' base (fun _ => True) v' (xs ++ [p]) ∧ Below base w0 w' ∧ w.grownBy w' v.ownBlock := by
  obtain ⟨h0, inner, hown, hr⟩ := hR
  obtain ⟨i0, hi, hzz⟩ := Option.map_eq_some_iff.1 hinfo
  simp only [Prod.mk.injEq] at hzz
  obtain ⟨hz0, hz1, hz2⟩ := hzz
  have hlen : xs.length + 1 ≤ 140737488355328 := Nat.le_trans (Nat.le_mul_of_pos_right _ hb0) hl
  obtain ⟨v1, w1, hrun, ho, hg, _, hat⟩ := run_append_own_at (P := Tryd.prog) w base t t e i0 z d.sz bytes ht hi hz0 hz1 hz2 hz hs0 v xs.length inner hown ⟨g, 0, none⟩ 1 1 cs (by rw [Nat.one_mul]; exact d.K_len (d.K_of_M hp)) (by
    intro j u hu
    have hb := hblk.cell j
    rw [add_plain, hb]
    simpa using hu) (d.K_one (d.K_of_M hp)) (by simp only [maxLen]; omega) hl hbase
  exact ⟨v1, w1, hrun, Kd.R_appended (okp := fun _ => False) h0 hr hp (fun _ h => h.elim) (fun _ _ => trivial) ho hg (hat.imp_right fun h => ⟨_, h, Nat.le_refl _⟩), hB.grown hg hbase (own_base hown), hg⟩
theorem run_append_opU {P : Program} {a : Act} {oi : Oper} {t : TypeId} {x v : Nat} {p y u : Value} {w w1 : World} (ho : oi.op = .call { callee := .builtin .append, args := #[.tmp x, .tmp v], argTypes := #[t, t] }) (e1 : a.tmps[x]? = some p) (e2 : a.tmps[v]? = some y) (h : (Builtin.append_ #[t, t] oi.type #[p, y]).run P w = .ok u w1) : (execOp a.eval oi).run P w = .ok (.value u) w1 := by
  unfold execOp
  simp only [ho, resolve, invoke, builtin, Sem.run_bind, Sem.run_pure, Result.andThen_ok, List.map_toArray, List.map_cons, List.map_nil, eval_of e1, eval_of e2, h]
set_option maxHeartbeats 1000000 in
theorem twiceR_any (p : S30) (w : World) (h0 : -4096 ≤ p.f0 ∧ p.f0 ≤ 4096) (h1 : -4096 ≤ p.f1 ∧ p.f1 ≤ 4096) :
    Calls Tryd.prog 63 #[.agg #[.int .i64 p.f0, .int .i64 p.f1, .bool p.f2]] w fun e w' => e = .returned (.agg #[.int .i64 (twR p).f0, .int .i64 (twR p).f1, .bool (twR p).f2]) ∧ Below w.heap.size w w' := by
  obtain ⟨a, b, c⟩ := p
  simp only [twR] at *
  go_enter Tryd.func63, Tryd.ntmps63
  go_wp2
  refine bodyPost_ret (res_c rfl _ _ (w.heap.size + 1) 30 #[_, _, _] _ rfl (Blk.new (w.alloc _) _ _ (by simp [World.size_alloc])) rfl Tryd.underlying30 (by kernel_rfl)) rfl ?_
  exact ⟨rfl, balloc (balloc (Below.refl _ _) _) _⟩
def nearC (c : List S30) : Prop := ∀ p ∈ c, -4096 ≤ p.f0 ∧ p.f0 ≤ 4096 ∧ -4096 ≤ p.f1 ∧ p.f1 ≤ 4096
theorem ptAt_near {c : List S30} (h : nearC c) (h0 : 0 < c.length) (k : Nat) : -4096 ≤ (ptAt c k).f0 ∧ (ptAt c k).f0 ≤ 4096 ∧ -4096 ≤ (ptAt c k).f1 ∧ (ptAt c k).f1 ≤ 4096 := h _ (ptAt_mem k h0)
theorem ptsR_len (c : List S30) : ∀ n, (ptsR c n).length ≤ 2 * n
  | 0 => Nat.le_refl 0
  | n + 1 => by
    have h := ptsR_len c n
    have e : (ptsR c (n + 1)).length = (ptsR c n).length + (blkR (ptAt c n) (ptAt c (n + 1))).length := by rw [ptsR, List.length_append]
    rw [blkR_len] at e
    split at e <;> omega
theorem outR_len (L : List S30) : ∀ n, (outR L n).length ≤ n
  | 0 => Nat.le_refl 0
  | n + 1 => by
    have h := outR_len L n
    rw [outR, List.length_append]
    have : (itR (ptAt L n) (ptAt L (n + 1)) (ptAt L (n + 2))).length ≤ 1 := by
      unfold itR
      split
      · split <;> simp
      · simp
    omega
theorem tmod_nat {a b : Nat} : (a : Int).tmod (b : Int) = ((a % b : Nat) : Int) := by rw [Int.tmod_eq_emod_of_nonneg (by omega)]; exact (Int.natCast_emod a b).symm
set_option maxRecDepth 100000 in
set_option maxHeartbeats 4000000 in
theorem piecesR_any (l : List S30) (A : Option Addr) (c : Nat) (w : World) (hC : Kd.C k30 w A l.length l) (hl : l.length ≤ 1000) (hn : nearC l) :
    Calls Tryd.prog 51 #[.slice A l.length c] w fun e w' => ∃ v, e = .returned v ∧ Kd.R k89 89 w' w.heap.size (fun _ => True) v (pcsR l) ∧ Below w.heap.size w w' := by
  have HC := Lib.hid hC
  have HN := Lib.hid hn
  clear hC hn
  go_enter Tryd.func51, Tryd.ntmps51
  go_wp2_with fail
  go_loopw [3, 5] (fun v i wr => ∃ k : Nat, i = .int .i64 k ∧ k ≤ l.length ∧ Hid (Below w.heap.size w wr) ∧ Hid (Kd.R k30 30 wr w.heap.size (fun _ => True) v (ptsR l k))) (fun _ i _ => l.length - (intOf i).toNat)
  case atStart => exact ⟨0, rfl, Nat.zero_le _, Lib.hid (Below.refl _ _), Lib.hid (Kd.R_nil _ _ _ _ _)⟩
  case round =>
    obtain ⟨k, rfl, hk, HBr, HV⟩ := hrel
    by_cases hlt : k < l.length
    · have d1 : decide (k < l.length) = true := decide_eq_true hlt
      have hp : 0 < l.length := by omega
      obtain ⟨Av, cv, rfl⟩ := Kd.R_slice HV.out
      obtain ⟨ad, rfl, p0, p1, p2⟩ := pt_cells HC.out k hlt
      obtain ⟨ad', had, q0, q1, q2⟩ := pt_cells HC.out ((k + 1) % l.length) (Nat.mod_lt _ hp)
      cases had
      rw [show l.getD k z30 = ptAt l k from (ptAt_lt l hlt).symm] at p0 p1 p2
      rw [show l.getD ((k + 1) % l.length) z30 = ptAt l (k + 1) from rfl] at q0 q1 q2
      have np := ptAt_near HN.out hp k
      have nq := ptAt_near HN.out hp (k + 1)
      have hz : ((l.length : Int) == 0) = false := beq_eq_false_iff_ne.2 (by omega)
      have hm : ((k : Int) + 1).tmod (l.length : Int) = (((k + 1) % l.length : Nat) : Int) := by rw [Int.tmod_eq_emod_of_nonneg (by omega)]; exact (Int.natCast_emod (k + 1) l.length).symm
      have hr : (k + 1) % l.length < l.length := Nat.mod_lt _ hp
      have HS : Hid (ptsR l (k + 1) = ptsR l k ++ blkR (ptAt l k) (ptAt l (k + 1))) := Lib.hid rfl
      have hpl := ptsR_len l k
      generalize ptAt l k = P at *
      generalize ptAt l (k + 1) = Q at *
      generalize ptsR l k = ps at *
      generalize (k + 1) % l.length = r at *
      obtain ⟨Px, Py, Pf⟩ := P
      obtain ⟨Qx, Qy, Qf⟩ := Q
      dsimp only at p0 p1 p2 q0 q1 q2 np nq
      have b0 : (0 : Int) ≤ (r : Int) := by omega
      have b1 : (r : Int) < (l.length : Int) := by omega
      have b2 : (0 : Int) ≤ (k : Int) := by omega
      have b3 : (k : Int) < (l.length : Int) := by omega
      have P0 := Lib.hid p0
      have P1 := Lib.hid p1
      have P2 := Lib.hid p2
      replace q0 := pw_cell_below HBr.out q0
      replace q1 := pw_cell_below HBr.out q1
      replace q2 := pw_cell_below HBr.out q2
      clear p0 p1 p2
      go_upto_region 7 with fail
      have hne0 := Kd.R_ne_new HV.out 0
      obtain ⟨w1, g, hw, hg, B1, HB1, _⟩ := new_box wr #[.int .i64 Qx, .int .i64 Qy, .bool Qf] 30
      rw [hw, hg]
      rw [Nat.add_zero, hg] at hne0
      have HNE := Lib.hid hne0
      have HBa := Lib.hid (bthen' HBr.out HB1.out)
      have HVa := Lib.hid (Kd.R_below HV.out HB1.out)
      have p0 := pw_cell_below HBa.out P0.out
      have p1 := pw_cell_below HBa.out P1.out
      have p2 := pw_cell_below HBa.out P2.out
      clear q0 q1 q2 hw hg HBr HV HB1 hne0
      go_wp2_with fail
      refine (twiceR_any ⟨Px, Py, Pf⟩ w1 ⟨np.1, np.2.1⟩ np.2.2).mono ?_
      rintro e w2 ⟨rfl, hb2⟩
      have B2 := Lib.hid (B1.out.below hb2)
      have HBb := Lib.hid (bthen' HBa.out hb2)
      have HVb := Lib.hid (Kd.R_below HVa.out hb2)
      clear p0 p1 p2 hb2 HBa HVa B1
      go_wp2_with (at_builtin; go_loud (refine Kd.R_append k30 (W := w2) (w0 := w) w.heap.size rfl (.tmp 26) (.tmp 32) 28 30 _ 24 rfl Tryd.underlying28 info30 rfl (by decide) (by omega) (.slice Av ps.length cv) ps (twR ⟨Px, Py, Pf⟩) [.int .i64 (2 * Px), .int .i64 (2 * Py), .bool Pf] (fun _ => True) (fun _ => False) rfl rfl (k30_mkM _ _ _ (twR ⟨Px, Py, Pf⟩)) (fun _ h => h.elim) (fun _ _ => trivial) HVb.out HBb.out HBb.out.size (by omega) ?_); intro v3 w3 hR3 hB3 hG3 hat3; have B3 := Lib.hid (show Blk w3 g #[.int .i64 Qx, .int .i64 Qy, .bool Qf] 30 from (hG3.block g B2.out.lt HNE.out).trans B2.out); have HNE3 := Lib.hid (show some g ≠ v3.ownBlock by rcases hat3 with h | ⟨b, h, hb⟩; (· rw [h]; exact HNE.out); (· rw [h]; intro e; cases e; have := B2.out.lt; omega)); have HR3 := Lib.hid hR3; have HB3 := Lib.hid hB3; have p0 := pw_cell_below hB3 P0.out; have p1 := pw_cell_below hB3 P1.out; have p2 := pw_cell_below hB3 P2.out; have f0 := B3.out.cell 0; have f1 := B3.out.cell 1; have f2 := B3.out.cell 2; simp only [List.getElem?_toArray, List.getElem?_cons_zero, List.getElem?_cons_succ] at f0 f1 f2; clear hR3 hB3 hG3 hat3 HVb HBb B2 HNE; cases Pf <;> cases Qf)
      all_goals try go_wp2_with fail
      · simp only [blkR, true_and, if_true] at HS
        have HS' := Lib.hid HS.out
        clear HS
        obtain ⟨sx, hsx⟩ : ∃ s, Px + Qx = s := ⟨_, rfl⟩
        obtain ⟨sy, hsy⟩ : ∃ s, Py + Qy = s := ⟨_, rfl⟩
        have YX := Aside0.mk (show IntKind.i64.wrap (Px + Qx) = sx by rw [← hsx]; exact IntWalk.i64_in _ (by omega))
        have YY := Aside0.mk (show IntKind.i64.wrap (Py + Qy) = sy by rw [← hsy]; exact IntWalk.i64_in _ (by omega))
        have SX := Aside0.mk hsx
        have SY := Aside0.mk hsy
        have HL := Aside0.mk (show ps.length ≤ 4000 by omega)
        have Y0 := Aside0.mk b2
        have Y1 := Aside0.mk b3
        have HNP := Lib.hid (show (k : Int) + 1 ≤ l.length ∧ k < l.length by omega)
        clear p0 p1 p2 f0 f1 f2 hsx hsy np nq hpl hz hm hr b0 b1 b2 b3 d1 hp
        refine start_ (n := 21) (S := fun w' => True) (ds := []) #[false, false, false, false, false, false, false, false, false, false, false, false, false, false, false, false, false, false, false, false, false] (by kernel_rfl) rfl rfl trivial (fun hHeld => ?_)
        refine with_tabW rfPcs.tab9 rfPcs.bits9 (fun HT_ HW_ => ?_)
        have HB : Aside0 (Below w.heap.size w w3.drew) := ⟨bdrew HB3.out⟩
        have NB : Aside0 (Blk w3.drew g #[.int .i64 Qx, .int .i64 Qy, .bool false] 30) := ⟨B3.out.drew⟩
        have RV : Aside0 (Kd.R k30 30 w3.drew w.heap.size (fun _ => True) v3 (ps ++ [twR ⟨Px, Py, false⟩])) := ⟨Kd.R_below HR3.out (below_drew (Below.refl _ _))⟩
        generalize hwd : w3.drew = w1' at *
        clear hwd
        refine inv_at [0, 1, 2, 3, 4, 5, 6, 7, 8, 9, 10, 11, 12, 13, 14, 15, 16, 17, 18, 19, 20] (fun a0_ b a w' => ∃ (ge : Nat) (v1 : Value) (m18_ : Value) (m20_ : Value), a = putSel a0_ b [(0, 45, v3), (1, 46, .slice (some ad) l.length c), (2, 47, .int .i64 k), (3, 48, .pointer (some (ad.add (k * 3)))), (4, 49, .pointer (some (ad.add (k * 3)))), (5, 50, .int .i64 Px), (6, 51, .pointer (some ⟨g, 0, none⟩)), (7, 52, .int .i64 Qx), (8, 53, .int .i64 sx), (9, 54, .slice (some ad) l.length c), (10, 55, .int .i64 k), (11, 56, .pointer (some (ad.add (k * 3)))), (12, 57, .pointer (some ⟨(ad.add (k * 3)).block, (ad.add (k * 3)).off + 1, none⟩)), (13, 58, .int .i64 Py), (14, 59, .pointer (some ⟨g, 1, none⟩)), (15, 60, .int .i64 Qy), (16, 61, .int .i64 sy), (17, 62, .agg #[.int .i64 sx, .int .i64 sy, .bool true]), (18, 63, m18_), (19, 64, v1), (20, 3, m20_)] ∧ (Below w.heap.size w w') ∧ (b 19 = false → Blk w' g #[.int .i64 Qx, .int .i64 Qy, .bool false] 30) ∧ (b 19 = false → Kd.R k30 30 w' w.heap.size (fun _ => True) v3 (ps ++ [twR ⟨Px, Py, false⟩])) ∧ (b 18 = true → b 19 = false → Blk w' ge #[.int .i64 sx, .int .i64 sy, .bool true] 30) ∧ (b 19 = true → Kd.R k30 30 w' w.heap.size (fun _ => True) v1 ((ps ++ [twR ⟨Px, Py, false⟩]) ++ [(mdR ⟨Px, Py, false⟩ ⟨Qx, Qy, false⟩)])) ∧ (b 18 = true → (m18_ : Value) = .slice (some ⟨ge, 0, none⟩) 1 1) ∧ (b 20 = true → (m20_ : Value) = v1)) HT_.out HW_.out (by kernel_rfl) (by kernel_rfl) ?_ ?_ ?_
        · exact ⟨0, undef, .bool false, .bool false, by simp only [putSel, Bool.false_eq_true, if_false], HB.out, fun _ => NB.out, fun _ => RV.out, fun h_ => absurd h_ (by decide), fun h_ => absurd h_ (by decide), fun h_ => absurd h_ (by decide), fun h_ => absurd h_ (by decide)⟩
        · skip
          clear HB NB RV
          refine steps_cons ?_ ?_
          · rintro b a w' ⟨ge, v1, m18_, m20_, ha, Q_HB, Q_NB, Q_RV, Q_EB, Q_R1, Q_X18_, Q_X20_⟩ hb_ hon hoff
            refine ⟨_, rfl, fun K hK => ?_⟩
            have e3 : a.tmps[3]? = some (v3) := by rw [ha]; exact (putSel_not (hoff 20 (by kernel_rfl)) rfl).trans rfl
            replace ha := Aside0.mk ha
            have HB := Aside0.mk Q_HB
            have NB := Aside0.mk (Q_NB (hoff 19 (by kernel_rfl)))
            have RV := Aside0.mk (Q_RV (hoff 19 (by kernel_rfl)))
            refine value_ (w1 := w') (v := v3) (by rfl) rfl ?_ ?_
            · go_simp
              (try simp only [i64_w])
              try rfl
            refine hK.out _ _ ⟨ge, v1, m18_, m20_, (by rw [ha.out]; exact putSel_upk 0 hb_ rfl rfl rfl), Q_HB, Q_NB, Q_RV, Q_EB, fun h0_ => absurd ((hoff 19 (by kernel_rfl)).symm.trans h0_) (by decide), Q_X18_, fun h0_ => absurd ((hoff 20 (by kernel_rfl)).symm.trans h0_) (by decide)⟩
          refine steps_cons ?_ ?_
          · rintro b a w' ⟨ge, v1, m18_, m20_, ha, Q_HB, Q_NB, Q_RV, Q_EB, Q_R1, Q_X18_, Q_X20_⟩ hb_ hon hoff
            refine ⟨_, rfl, fun K hK => ?_⟩
            have e0 : a.tmps[0]? = some (.slice (some ad) l.length c) := by rw [ha]; exact (putSel_off rfl).trans rfl
            replace ha := Aside0.mk ha
            have HB := Aside0.mk Q_HB
            have NB := Aside0.mk (Q_NB (hoff 19 (by kernel_rfl)))
            have RV := Aside0.mk (Q_RV (hoff 19 (by kernel_rfl)))
            refine value_ (w1 := w') (v := .slice (some ad) l.length c) (by rfl) rfl ?_ ?_
            · go_simp
              (try simp only [i64_w])
              try rfl
            refine hK.out _ _ ⟨ge, v1, m18_, m20_, (by rw [ha.out]; exact putSel_upk 1 hb_ rfl rfl rfl), Q_HB, Q_NB, Q_RV, fun h0_ _ => absurd ((hoff 18 (by kernel_rfl)).symm.trans h0_) (by decide), fun h0_ => absurd ((hoff 19 (by kernel_rfl)).symm.trans h0_) (by decide), fun h0_ => absurd ((hoff 18 (by kernel_rfl)).symm.trans h0_) (by decide), fun h0_ => absurd ((hoff 20 (by kernel_rfl)).symm.trans h0_) (by decide)⟩
          refine steps_cons ?_ ?_
          · rintro b a w' ⟨ge, v1, m18_, m20_, ha, Q_HB, Q_NB, Q_RV, Q_EB, Q_R1, Q_X18_, Q_X20_⟩ hb_ hon hoff
            refine ⟨_, rfl, fun K hK => ?_⟩
            have e5 : a.tmps[5]? = some (.int .i64 k) := by rw [ha]; exact (putSel_off rfl).trans rfl
            replace ha := Aside0.mk ha
            have HB := Aside0.mk Q_HB
            have NB := Aside0.mk (Q_NB (hoff 19 (by kernel_rfl)))
            have RV := Aside0.mk (Q_RV (hoff 19 (by kernel_rfl)))
            refine value_ (w1 := w') (v := .int .i64 k) (by rfl) rfl ?_ ?_
            · go_simp
              (try simp only [i64_w])
              try rfl
            refine hK.out _ _ ⟨ge, v1, m18_, m20_, (by rw [ha.out]; exact putSel_upk 2 hb_ rfl rfl rfl), Q_HB, Q_NB, Q_RV, fun h0_ _ => absurd ((hoff 18 (by kernel_rfl)).symm.trans h0_) (by decide), fun h0_ => absurd ((hoff 19 (by kernel_rfl)).symm.trans h0_) (by decide), fun h0_ => absurd ((hoff 18 (by kernel_rfl)).symm.trans h0_) (by decide), fun h0_ => absurd ((hoff 20 (by kernel_rfl)).symm.trans h0_) (by decide)⟩
          refine steps_cons ?_ ?_
          · rintro b a w' ⟨ge, v1, m18_, m20_, ha, Q_HB, Q_NB, Q_RV, Q_EB, Q_R1, Q_X18_, Q_X20_⟩ hb_ hon hoff
            refine ⟨_, rfl, fun K hK => ?_⟩
            have e46 : a.tmps[46]? = some (.slice (some ad) l.length c) := by rw [ha]; exact putSel_on (e := (1, 46, .slice (some ad) l.length c)) 1 rfl rfl (hon 1 (by kernel_rfl)) rfl
            have e47 : a.tmps[47]? = some (.int .i64 k) := by rw [ha]; exact putSel_on (e := (2, 47, .int .i64 k)) 2 rfl rfl (hon 2 (by kernel_rfl)) rfl
            replace ha := Aside0.mk ha
            have HB := Aside0.mk Q_HB
            have NB := Aside0.mk (Q_NB (hoff 19 (by kernel_rfl)))
            have RV := Aside0.mk (Q_RV (hoff 19 (by kernel_rfl)))
            have y0 := Y0.out
            have y1 := Y1.out
            refine value_ (w1 := w') (v := .pointer (some (ad.add (k * 3)))) (by rfl) rfl ?_ ?_
            · go_simp
              (try simp only [i64_w])
              try rfl
            refine hK.out _ _ ⟨ge, v1, m18_, m20_, (by rw [ha.out]; exact putSel_upk 3 hb_ rfl rfl rfl), Q_HB, Q_NB, Q_RV, fun h0_ _ => absurd ((hoff 18 (by kernel_rfl)).symm.trans h0_) (by decide), fun h0_ => absurd ((hoff 19 (by kernel_rfl)).symm.trans h0_) (by decide), fun h0_ => absurd ((hoff 18 (by kernel_rfl)).symm.trans h0_) (by decide), fun h0_ => absurd ((hoff 20 (by kernel_rfl)).symm.trans h0_) (by decide)⟩
          refine steps_cons ?_ ?_
          · rintro b a w' ⟨ge, v1, m18_, m20_, ha, Q_HB, Q_NB, Q_RV, Q_EB, Q_R1, Q_X18_, Q_X20_⟩ hb_ hon hoff
            refine ⟨_, rfl, fun K hK => ?_⟩
            have e48 : a.tmps[48]? = some (.pointer (some (ad.add (k * 3)))) := by rw [ha]; exact putSel_on (e := (3, 48, .pointer (some (ad.add (k * 3))))) 3 rfl rfl (hon 3 (by kernel_rfl)) rfl
            replace ha := Aside0.mk ha
            have HB := Aside0.mk Q_HB
            have NB := Aside0.mk (Q_NB (hoff 19 (by kernel_rfl)))
            have RV := Aside0.mk (Q_RV (hoff 19 (by kernel_rfl)))
            refine value_ (w1 := w') (v := .pointer (some (ad.add (k * 3)))) (by rfl) rfl ?_ ?_
            · go_simp
              (try simp only [i64_w])
              try rfl
            refine hK.out _ _ ⟨ge, v1, m18_, m20_, (by rw [ha.out]; exact putSel_upk 4 hb_ rfl rfl rfl), Q_HB, Q_NB, Q_RV, fun h0_ _ => absurd ((hoff 18 (by kernel_rfl)).symm.trans h0_) (by decide), fun h0_ => absurd ((hoff 19 (by kernel_rfl)).symm.trans h0_) (by decide), fun h0_ => absurd ((hoff 18 (by kernel_rfl)).symm.trans h0_) (by decide), fun h0_ => absurd ((hoff 20 (by kernel_rfl)).symm.trans h0_) (by decide)⟩
          refine steps_cons ?_ ?_
          · rintro b a w' ⟨ge, v1, m18_, m20_, ha, Q_HB, Q_NB, Q_RV, Q_EB, Q_R1, Q_X18_, Q_X20_⟩ hb_ hon hoff
            refine ⟨_, rfl, fun K hK => ?_⟩
            have e49 : a.tmps[49]? = some (.pointer (some (ad.add (k * 3)))) := by rw [ha]; exact putSel_on (e := (4, 49, .pointer (some (ad.add (k * 3))))) 4 rfl rfl (hon 4 (by kernel_rfl)) rfl
            replace ha := Aside0.mk ha
            have HB := Aside0.mk Q_HB
            have NB := Aside0.mk (Q_NB (hoff 19 (by kernel_rfl)))
            have RV := Aside0.mk (Q_RV (hoff 19 (by kernel_rfl)))
            have z5 : w'.cell? (ad.add (k * 3)) = some (.int .i64 Px) := pw_cell_below HB.out P0.out
            refine value_ (w1 := w') (v := .int .i64 Px) (by rfl) rfl ?_ ?_
            · go_simp
              (try simp only [i64_w])
              try rfl
            refine hK.out _ _ ⟨ge, v1, m18_, m20_, (by rw [ha.out]; exact putSel_upk 5 hb_ rfl rfl rfl), Q_HB, Q_NB, Q_RV, fun h0_ _ => absurd ((hoff 18 (by kernel_rfl)).symm.trans h0_) (by decide), fun h0_ => absurd ((hoff 19 (by kernel_rfl)).symm.trans h0_) (by decide), fun h0_ => absurd ((hoff 18 (by kernel_rfl)).symm.trans h0_) (by decide), fun h0_ => absurd ((hoff 20 (by kernel_rfl)).symm.trans h0_) (by decide)⟩
          refine steps_cons ?_ ?_
          · rintro b a w' ⟨ge, v1, m18_, m20_, ha, Q_HB, Q_NB, Q_RV, Q_EB, Q_R1, Q_X18_, Q_X20_⟩ hb_ hon hoff
            refine ⟨_, rfl, fun K hK => ?_⟩
            have e6 : a.tmps[6]? = some (.pointer (some ⟨g, 0, none⟩)) := by rw [ha]; exact (putSel_off rfl).trans rfl
            replace ha := Aside0.mk ha
            have HB := Aside0.mk Q_HB
            have NB := Aside0.mk (Q_NB (hoff 19 (by kernel_rfl)))
            have RV := Aside0.mk (Q_RV (hoff 19 (by kernel_rfl)))
            refine value_ (w1 := w') (v := .pointer (some ⟨g, 0, none⟩)) (by rfl) rfl ?_ ?_
            · go_simp
              (try simp only [i64_w])
              try rfl
            refine hK.out _ _ ⟨ge, v1, m18_, m20_, (by rw [ha.out]; exact putSel_upk 6 hb_ rfl rfl rfl), Q_HB, Q_NB, Q_RV, fun h0_ _ => absurd ((hoff 18 (by kernel_rfl)).symm.trans h0_) (by decide), fun h0_ => absurd ((hoff 19 (by kernel_rfl)).symm.trans h0_) (by decide), fun h0_ => absurd ((hoff 18 (by kernel_rfl)).symm.trans h0_) (by decide), fun h0_ => absurd ((hoff 20 (by kernel_rfl)).symm.trans h0_) (by decide)⟩
          refine steps_cons ?_ ?_
          · rintro b a w' ⟨ge, v1, m18_, m20_, ha, Q_HB, Q_NB, Q_RV, Q_EB, Q_R1, Q_X18_, Q_X20_⟩ hb_ hon hoff
            refine ⟨_, rfl, fun K hK => ?_⟩
            have e51 : a.tmps[51]? = some (.pointer (some ⟨g, 0, none⟩)) := by rw [ha]; exact putSel_on (e := (6, 51, .pointer (some ⟨g, 0, none⟩))) 6 rfl rfl (hon 6 (by kernel_rfl)) rfl
            replace ha := Aside0.mk ha
            have HB := Aside0.mk Q_HB
            have NB := Aside0.mk (Q_NB (hoff 19 (by kernel_rfl)))
            have RV := Aside0.mk (Q_RV (hoff 19 (by kernel_rfl)))
            have z7 : w'.cell? ⟨g, 0, none⟩ = some (.int .i64 Qx) := NB.out.cell 0
            refine value_ (w1 := w') (v := .int .i64 Qx) (by rfl) rfl ?_ ?_
            · go_simp
              (try simp only [i64_w])
              try rfl
            refine hK.out _ _ ⟨ge, v1, m18_, m20_, (by rw [ha.out]; exact putSel_upk 7 hb_ rfl rfl rfl), Q_HB, Q_NB, Q_RV, fun h0_ _ => absurd ((hoff 18 (by kernel_rfl)).symm.trans h0_) (by decide), fun h0_ => absurd ((hoff 19 (by kernel_rfl)).symm.trans h0_) (by decide), fun h0_ => absurd ((hoff 18 (by kernel_rfl)).symm.trans h0_) (by decide), fun h0_ => absurd ((hoff 20 (by kernel_rfl)).symm.trans h0_) (by decide)⟩
          refine steps_cons ?_ ?_
          · rintro b a w' ⟨ge, v1, m18_, m20_, ha, Q_HB, Q_NB, Q_RV, Q_EB, Q_R1, Q_X18_, Q_X20_⟩ hb_ hon hoff
            refine ⟨_, rfl, fun K hK => ?_⟩
            have e50 : a.tmps[50]? = some (.int .i64 Px) := by rw [ha]; exact putSel_on (e := (5, 50, .int .i64 Px)) 5 rfl rfl (hon 5 (by kernel_rfl)) rfl
            have e52 : a.tmps[52]? = some (.int .i64 Qx) := by rw [ha]; exact putSel_on (e := (7, 52, .int .i64 Qx)) 7 rfl rfl (hon 7 (by kernel_rfl)) rfl
            replace ha := Aside0.mk ha
            have HB := Aside0.mk Q_HB
            have NB := Aside0.mk (Q_NB (hoff 19 (by kernel_rfl)))
            have RV := Aside0.mk (Q_RV (hoff 19 (by kernel_rfl)))
            have y2 := YX.out
            refine value_ (w1 := w') (v := .int .i64 sx) (by rfl) rfl ?_ ?_
            · go_simp
              (try simp only [i64_w])
              try rfl
            refine hK.out _ _ ⟨ge, v1, m18_, m20_, (by rw [ha.out]; exact putSel_upk 8 hb_ rfl rfl rfl), Q_HB, Q_NB, Q_RV, fun h0_ _ => absurd ((hoff 18 (by kernel_rfl)).symm.trans h0_) (by decide), fun h0_ => absurd ((hoff 19 (by kernel_rfl)).symm.trans h0_) (by decide), fun h0_ => absurd ((hoff 18 (by kernel_rfl)).symm.trans h0_) (by decide), fun h0_ => absurd ((hoff 20 (by kernel_rfl)).symm.trans h0_) (by decide)⟩
          refine steps_cons ?_ ?_
          · rintro b a w' ⟨ge, v1, m18_, m20_, ha, Q_HB, Q_NB, Q_RV, Q_EB, Q_R1, Q_X18_, Q_X20_⟩ hb_ hon hoff
            refine ⟨_, rfl, fun K hK => ?_⟩
            have e0 : a.tmps[0]? = some (.slice (some ad) l.length c) := by rw [ha]; exact (putSel_off rfl).trans rfl
            replace ha := Aside0.mk ha
            have HB := Aside0.mk Q_HB
            have NB := Aside0.mk (Q_NB (hoff 19 (by kernel_rfl)))
            have RV := Aside0.mk (Q_RV (hoff 19 (by kernel_rfl)))
            refine value_ (w1 := w') (v := .slice (some ad) l.length c) (by rfl) rfl ?_ ?_
            · go_simp
              (try simp only [i64_w])
              try rfl
            refine hK.out _ _ ⟨ge, v1, m18_, m20_, (by rw [ha.out]; exact putSel_upk 9 hb_ rfl rfl rfl), Q_HB, Q_NB, Q_RV, fun h0_ _ => absurd ((hoff 18 (by kernel_rfl)).symm.trans h0_) (by decide), fun h0_ => absurd ((hoff 19 (by kernel_rfl)).symm.trans h0_) (by decide), fun h0_ => absurd ((hoff 18 (by kernel_rfl)).symm.trans h0_) (by decide), fun h0_ => absurd ((hoff 20 (by kernel_rfl)).symm.trans h0_) (by decide)⟩
          refine steps_cons ?_ ?_
          · rintro b a w' ⟨ge, v1, m18_, m20_, ha, Q_HB, Q_NB, Q_RV, Q_EB, Q_R1, Q_X18_, Q_X20_⟩ hb_ hon hoff
            refine ⟨_, rfl, fun K hK => ?_⟩
            have e5 : a.tmps[5]? = some (.int .i64 k) := by rw [ha]; exact (putSel_off rfl).trans rfl
            replace ha := Aside0.mk ha
            have HB := Aside0.mk Q_HB
            have NB := Aside0.mk (Q_NB (hoff 19 (by kernel_rfl)))
            have RV := Aside0.mk (Q_RV (hoff 19 (by kernel_rfl)))
            refine value_ (w1 := w') (v := .int .i64 k) (by rfl) rfl ?_ ?_
            · go_simp
              (try simp only [i64_w])
              try rfl
            refine hK.out _ _ ⟨ge, v1, m18_, m20_, (by rw [ha.out]; exact putSel_upk 10 hb_ rfl rfl rfl), Q_HB, Q_NB, Q_RV, fun h0_ _ => absurd ((hoff 18 (by kernel_rfl)).symm.trans h0_) (by decide), fun h0_ => absurd ((hoff 19 (by kernel_rfl)).symm.trans h0_) (by decide), fun h0_ => absurd ((hoff 18 (by kernel_rfl)).symm.trans h0_) (by decide), fun h0_ => absurd ((hoff 20 (by kernel_rfl)).symm.trans h0_) (by decide)⟩
          refine steps_cons ?_ ?_
          · rintro b a w' ⟨ge, v1, m18_, m20_, ha, Q_HB, Q_NB, Q_RV, Q_EB, Q_R1, Q_X18_, Q_X20_⟩ hb_ hon hoff
            refine ⟨_, rfl, fun K hK => ?_⟩
            have e54 : a.tmps[54]? = some (.slice (some ad) l.length c) := by rw [ha]; exact putSel_on (e := (9, 54, .slice (some ad) l.length c)) 9 rfl rfl (hon 9 (by kernel_rfl)) rfl
            have e55 : a.tmps[55]? = some (.int .i64 k) := by rw [ha]; exact putSel_on (e := (10, 55, .int .i64 k)) 10 rfl rfl (hon 10 (by kernel_rfl)) rfl
            replace ha := Aside0.mk ha
            have HB := Aside0.mk Q_HB
            have NB := Aside0.mk (Q_NB (hoff 19 (by kernel_rfl)))
            have RV := Aside0.mk (Q_RV (hoff 19 (by kernel_rfl)))
            have y0 := Y0.out
            have y1 := Y1.out
            refine value_ (w1 := w') (v := .pointer (some (ad.add (k * 3)))) (by rfl) rfl ?_ ?_
            · go_simp
              (try simp only [i64_w])
              try rfl
            refine hK.out _ _ ⟨ge, v1, m18_, m20_, (by rw [ha.out]; exact putSel_upk 11 hb_ rfl rfl rfl), Q_HB, Q_NB, Q_RV, fun h0_ _ => absurd ((hoff 18 (by kernel_rfl)).symm.trans h0_) (by decide), fun h0_ => absurd ((hoff 19 (by kernel_rfl)).symm.trans h0_) (by decide), fun h0_ => absurd ((hoff 18 (by kernel_rfl)).symm.trans h0_) (by decide), fun h0_ => absurd ((hoff 20 (by kernel_rfl)).symm.trans h0_) (by decide)⟩
          refine steps_cons ?_ ?_
          · rintro b a w' ⟨ge, v1, m18_, m20_, ha, Q_HB, Q_NB, Q_RV, Q_EB, Q_R1, Q_X18_, Q_X20_⟩ hb_ hon hoff
            refine ⟨_, rfl, fun K hK => ?_⟩
            have e56 : a.tmps[56]? = some (.pointer (some (ad.add (k * 3)))) := by rw [ha]; exact putSel_on (e := (11, 56, .pointer (some (ad.add (k * 3))))) 11 rfl rfl (hon 11 (by kernel_rfl)) rfl
            replace ha := Aside0.mk ha
            have HB := Aside0.mk Q_HB
            have NB := Aside0.mk (Q_NB (hoff 19 (by kernel_rfl)))
            have RV := Aside0.mk (Q_RV (hoff 19 (by kernel_rfl)))
            refine value_ (w1 := w') (v := .pointer (some ⟨(ad.add (k * 3)).block, (ad.add (k * 3)).off + 1, none⟩)) (by rfl) rfl ?_ ?_
            · go_simp
              (try simp only [i64_w])
              try rfl
            refine hK.out _ _ ⟨ge, v1, m18_, m20_, (by rw [ha.out]; exact putSel_upk 12 hb_ rfl rfl rfl), Q_HB, Q_NB, Q_RV, fun h0_ _ => absurd ((hoff 18 (by kernel_rfl)).symm.trans h0_) (by decide), fun h0_ => absurd ((hoff 19 (by kernel_rfl)).symm.trans h0_) (by decide), fun h0_ => absurd ((hoff 18 (by kernel_rfl)).symm.trans h0_) (by decide), fun h0_ => absurd ((hoff 20 (by kernel_rfl)).symm.trans h0_) (by decide)⟩
          refine steps_cons ?_ ?_
          · rintro b a w' ⟨ge, v1, m18_, m20_, ha, Q_HB, Q_NB, Q_RV, Q_EB, Q_R1, Q_X18_, Q_X20_⟩ hb_ hon hoff
            refine ⟨_, rfl, fun K hK => ?_⟩
            have e57 : a.tmps[57]? = some (.pointer (some ⟨(ad.add (k * 3)).block, (ad.add (k * 3)).off + 1, none⟩)) := by rw [ha]; exact putSel_on (e := (12, 57, .pointer (some ⟨(ad.add (k * 3)).block, (ad.add (k * 3)).off + 1, none⟩))) 12 rfl rfl (hon 12 (by kernel_rfl)) rfl
            replace ha := Aside0.mk ha
            have HB := Aside0.mk Q_HB
            have NB := Aside0.mk (Q_NB (hoff 19 (by kernel_rfl)))
            have RV := Aside0.mk (Q_RV (hoff 19 (by kernel_rfl)))
            have z5 : w'.cell? ⟨(ad.add (k * 3)).block, (ad.add (k * 3)).off + 1, none⟩ = some (.int .i64 Py) := pw_cell_below HB.out P1.out
            refine value_ (w1 := w') (v := .int .i64 Py) (by rfl) rfl ?_ ?_
            · go_simp
              (try simp only [i64_w])
              try rfl
            refine hK.out _ _ ⟨ge, v1, m18_, m20_, (by rw [ha.out]; exact putSel_upk 13 hb_ rfl rfl rfl), Q_HB, Q_NB, Q_RV, fun h0_ _ => absurd ((hoff 18 (by kernel_rfl)).symm.trans h0_) (by decide), fun h0_ => absurd ((hoff 19 (by kernel_rfl)).symm.trans h0_) (by decide), fun h0_ => absurd ((hoff 18 (by kernel_rfl)).symm.trans h0_) (by decide), fun h0_ => absurd ((hoff 20 (by kernel_rfl)).symm.trans h0_) (by decide)⟩
          refine steps_cons ?_ ?_
          · rintro b a w' ⟨ge, v1, m18_, m20_, ha, Q_HB, Q_NB, Q_RV, Q_EB, Q_R1, Q_X18_, Q_X20_⟩ hb_ hon hoff
            refine ⟨_, rfl, fun K hK => ?_⟩
            have e6 : a.tmps[6]? = some (.pointer (some ⟨g, 0, none⟩)) := by rw [ha]; exact (putSel_off rfl).trans rfl
            replace ha := Aside0.mk ha
            have HB := Aside0.mk Q_HB
            have NB := Aside0.mk (Q_NB (hoff 19 (by kernel_rfl)))
            have RV := Aside0.mk (Q_RV (hoff 19 (by kernel_rfl)))
            refine value_ (w1 := w') (v := .pointer (some ⟨g, 1, none⟩)) (by rfl) rfl ?_ ?_
            · go_simp
              (try simp only [i64_w])
              try rfl
            refine hK.out _ _ ⟨ge, v1, m18_, m20_, (by rw [ha.out]; exact putSel_upk 14 hb_ rfl rfl rfl), Q_HB, Q_NB, Q_RV, fun h0_ _ => absurd ((hoff 18 (by kernel_rfl)).symm.trans h0_) (by decide), fun h0_ => absurd ((hoff 19 (by kernel_rfl)).symm.trans h0_) (by decide), fun h0_ => absurd ((hoff 18 (by kernel_rfl)).symm.trans h0_) (by decide), fun h0_ => absurd ((hoff 20 (by kernel_rfl)).symm.trans h0_) (by decide)⟩
          refine steps_cons ?_ ?_
          · rintro b a w' ⟨ge, v1, m18_, m20_, ha, Q_HB, Q_NB, Q_RV, Q_EB, Q_R1, Q_X18_, Q_X20_⟩ hb_ hon hoff
            refine ⟨_, rfl, fun K hK => ?_⟩
            have e59 : a.tmps[59]? = some (.pointer (some ⟨g, 1, none⟩)) := by rw [ha]; exact putSel_on (e := (14, 59, .pointer (some ⟨g, 1, none⟩))) 14 rfl rfl (hon 14 (by kernel_rfl)) rfl
            replace ha := Aside0.mk ha
            have HB := Aside0.mk Q_HB
            have NB := Aside0.mk (Q_NB (hoff 19 (by kernel_rfl)))
            have RV := Aside0.mk (Q_RV (hoff 19 (by kernel_rfl)))
            have z7 : w'.cell? ⟨g, 1, none⟩ = some (.int .i64 Qy) := NB.out.cell 1
            refine value_ (w1 := w') (v := .int .i64 Qy) (by rfl) rfl ?_ ?_
            · go_simp
              (try simp only [i64_w])
              try rfl
            refine hK.out _ _ ⟨ge, v1, m18_, m20_, (by rw [ha.out]; exact putSel_upk 15 hb_ rfl rfl rfl), Q_HB, Q_NB, Q_RV, fun h0_ _ => absurd ((hoff 18 (by kernel_rfl)).symm.trans h0_) (by decide), fun h0_ => absurd ((hoff 19 (by kernel_rfl)).symm.trans h0_) (by decide), fun h0_ => absurd ((hoff 18 (by kernel_rfl)).symm.trans h0_) (by decide), fun h0_ => absurd ((hoff 20 (by kernel_rfl)).symm.trans h0_) (by decide)⟩
          refine steps_cons ?_ ?_
          · rintro b a w' ⟨ge, v1, m18_, m20_, ha, Q_HB, Q_NB, Q_RV, Q_EB, Q_R1, Q_X18_, Q_X20_⟩ hb_ hon hoff
            refine ⟨_, rfl, fun K hK => ?_⟩
            have e58 : a.tmps[58]? = some (.int .i64 Py) := by rw [ha]; exact putSel_on (e := (13, 58, .int .i64 Py)) 13 rfl rfl (hon 13 (by kernel_rfl)) rfl
            have e60 : a.tmps[60]? = some (.int .i64 Qy) := by rw [ha]; exact putSel_on (e := (15, 60, .int .i64 Qy)) 15 rfl rfl (hon 15 (by kernel_rfl)) rfl
            replace ha := Aside0.mk ha
            have HB := Aside0.mk Q_HB
            have NB := Aside0.mk (Q_NB (hoff 19 (by kernel_rfl)))
            have RV := Aside0.mk (Q_RV (hoff 19 (by kernel_rfl)))
            have y3 := YY.out
            refine value_ (w1 := w') (v := .int .i64 sy) (by rfl) rfl ?_ ?_
            · go_simp
              (try simp only [i64_w])
              try rfl
            refine hK.out _ _ ⟨ge, v1, m18_, m20_, (by rw [ha.out]; exact putSel_upk 16 hb_ rfl rfl rfl), Q_HB, Q_NB, Q_RV, fun h0_ _ => absurd ((hoff 18 (by kernel_rfl)).symm.trans h0_) (by decide), fun h0_ => absurd ((hoff 19 (by kernel_rfl)).symm.trans h0_) (by decide), fun h0_ => absurd ((hoff 18 (by kernel_rfl)).symm.trans h0_) (by decide), fun h0_ => absurd ((hoff 20 (by kernel_rfl)).symm.trans h0_) (by decide)⟩
          refine steps_cons ?_ ?_
          · rintro b a w' ⟨ge, v1, m18_, m20_, ha, Q_HB, Q_NB, Q_RV, Q_EB, Q_R1, Q_X18_, Q_X20_⟩ hb_ hon hoff
            refine ⟨_, rfl, fun K hK => ?_⟩
            have e53 : a.tmps[53]? = some (.int .i64 sx) := by rw [ha]; exact putSel_on (e := (8, 53, .int .i64 sx)) 8 rfl rfl (hon 8 (by kernel_rfl)) rfl
            have e61 : a.tmps[61]? = some (.int .i64 sy) := by rw [ha]; exact putSel_on (e := (16, 61, .int .i64 sy)) 16 rfl rfl (hon 16 (by kernel_rfl)) rfl
            replace ha := Aside0.mk ha
            have HB := Aside0.mk Q_HB
            have NB := Aside0.mk (Q_NB (hoff 19 (by kernel_rfl)))
            have RV := Aside0.mk (Q_RV (hoff 19 (by kernel_rfl)))
            refine value_ (w1 := w') (v := .agg #[.int .i64 sx, .int .i64 sy, .bool true]) (by rfl) rfl ?_ ?_
            · go_simp
              (try simp only [i64_w])
              try rfl
            refine hK.out _ _ ⟨ge, v1, m18_, m20_, (by rw [ha.out]; exact putSel_upk 17 hb_ rfl rfl rfl), Q_HB, Q_NB, Q_RV, fun h0_ _ => absurd ((hoff 18 (by kernel_rfl)).symm.trans h0_) (by decide), fun h0_ => absurd ((hoff 19 (by kernel_rfl)).symm.trans h0_) (by decide), fun h0_ => absurd ((hoff 18 (by kernel_rfl)).symm.trans h0_) (by decide), fun h0_ => absurd ((hoff 20 (by kernel_rfl)).symm.trans h0_) (by decide)⟩
          refine steps_cons ?_ ?_
          · rintro b a w' ⟨ge, v1, m18_, m20_, ha, Q_HB, Q_NB, Q_RV, Q_EB, Q_R1, Q_X18_, Q_X20_⟩ hb_ hon hoff
            refine ⟨_, rfl, fun K hK => ?_⟩
            have e62 : a.tmps[62]? = some (.agg #[.int .i64 sx, .int .i64 sy, .bool true]) := by rw [ha]; exact putSel_on (e := (17, 62, .agg #[.int .i64 sx, .int .i64 sy, .bool true])) 17 rfl rfl (hon 17 (by kernel_rfl)) rfl
            replace ha := Aside0.mk ha
            have HB := Aside0.mk Q_HB
            have NB := Aside0.mk (Q_NB (hoff 19 (by kernel_rfl)))
            have RV := Aside0.mk (Q_RV (hoff 19 (by kernel_rfl)))
            refine value_ (w1 := w'.alloc (.cells #[.int .i64 sx, .int .i64 sy, .bool true] 30)) (v := .slice (some ⟨w'.heap.size, 0, none⟩) 1 1) (by rfl) rfl ?_ ?_
            · go_simp
            refine hK.out _ _ ⟨w'.heap.size, v1, (.slice (some ⟨w'.heap.size, 0, none⟩) 1 1), m20_, (by rw [ha.out]; exact putSel_upk 18 hb_ rfl rfl rfl), bthen' HB.out (below_alloc (Below.refl _ w') _), fun _ => NB.out.alloc _, fun _ => Kd.R_below RV.out (below_alloc (Below.refl _ w') _), fun _ _ => Blk.new w' _ _ rfl, fun h0_ => absurd ((hoff 19 (by kernel_rfl)).symm.trans h0_) (by decide), fun _ => rfl, fun h0_ => absurd ((hoff 20 (by kernel_rfl)).symm.trans h0_) (by decide)⟩
          refine steps_cons ?_ ?_
          · rintro b a w' ⟨ge, v1, m18_, m20_, ha, Q_HB, Q_NB, Q_RV, Q_EB, Q_R1, Q_X18_, Q_X20_⟩ hb_ hon hoff
            refine ⟨_, rfl, fun K hK => ?_⟩
            have e45 : a.tmps[45]? = some (v3) := by rw [ha]; exact putSel_on (e := (0, 45, v3)) 0 rfl rfl (hon 0 (by kernel_rfl)) rfl
            have e63 : a.tmps[63]? = some (m18_) := by rw [ha]; exact putSel_on (e := (18, 63, m18_)) 18 rfl rfl (hon 18 (by kernel_rfl)) rfl
            rw [Q_X18_ (hon 18 (by kernel_rfl))] at e63
            replace ha := Aside0.mk ha
            have HB := Aside0.mk Q_HB
            have NB := Aside0.mk (Q_NB hb_)
            have RV := Aside0.mk (Q_RV hb_)
            have EB := Aside0.mk (Q_EB (hon 18 (by kernel_rfl)) hb_)
            obtain ⟨vv, w2, hr, o1, o2, o3⟩ := append_kd (d := k30) 28 30 _ 24 Tryd.underlying28 info30 rfl (by decide) (by omega) RV.out HB.out HB.out.size ge (mdR ⟨Px, Py, false⟩ ⟨Qx, Qy, false⟩) [.int .i64 sx, .int .i64 sy, .bool true] EB.out (by rw [← SX.out, ← SY.out]; exact k30_mkM _ _ _ (mdR ⟨Px, Py, false⟩ ⟨Qx, Qy, false⟩)) (by have := HL.out; (try simp only [List.length_append, List.length_singleton]); omega)
            refine value_ (w1 := w2) (v := vv) (by rfl) rfl ?_ ?_
            · exact run_append_opU (by rfl) (by assumption) (by assumption) hr
            refine hK.out _ _ ⟨ge, vv, m18_, m20_, (by rw [ha.out]; exact putSel_upk 19 hb_ rfl rfl rfl), o2, fun h0_ => absurd ((up_self b 19).symm.trans h0_) (by decide), fun h0_ => absurd ((up_self b 19).symm.trans h0_) (by decide), fun _ h1_ => absurd ((up_self b 19).symm.trans h1_) (by decide), fun _ => o1, Q_X18_, fun h0_ => absurd ((hoff 20 (by kernel_rfl)).symm.trans h0_) (by decide)⟩
          refine steps_cons ?_ ?_
          · rintro b a w' ⟨ge, v1, m18_, m20_, ha, Q_HB, Q_NB, Q_RV, Q_EB, Q_R1, Q_X18_, Q_X20_⟩ hb_ hon hoff
            refine ⟨_, rfl, fun K hK => ?_⟩
            have e64 : a.tmps[64]? = some (v1) := by rw [ha]; exact putSel_on (e := (19, 64, v1)) 19 rfl rfl (hon 19 (by kernel_rfl)) rfl
            replace ha := Aside0.mk ha
            have HB := Aside0.mk Q_HB
            have R1 := Aside0.mk (Q_R1 (hon 19 (by kernel_rfl)))
            refine value_ (w1 := w') (v := v1) (by rfl) rfl ?_ ?_
            · go_simp
              (try simp only [i64_w])
              try rfl
            refine hK.out _ _ ⟨ge, v1, m18_, (v1), (by rw [ha.out]; exact putSel_upk 20 hb_ rfl rfl rfl), Q_HB, fun h0_ => absurd ((hon 19 (by kernel_rfl)).symm.trans h0_) (by decide), fun h0_ => absurd ((hon 19 (by kernel_rfl)).symm.trans h0_) (by decide), fun _ h1_ => absurd ((hon 19 (by kernel_rfl)).symm.trans h1_) (by decide), Q_R1, Q_X18_, fun _ => rfl⟩
          exact steps_nil
        · rintro b a w' hall ⟨ge, v1, m18_, m20_, ha, Q_HB, Q_NB, Q_RV, Q_EB, Q_R1, Q_X18_, Q_X20_⟩
          clear HB NB RV
          have hb0_ := hall 0 (by kernel_rfl)
          have hb1_ := hall 1 (by kernel_rfl)
          have hb2_ := hall 2 (by kernel_rfl)
          have hb3_ := hall 3 (by kernel_rfl)
          have hb4_ := hall 4 (by kernel_rfl)
          have hb5_ := hall 5 (by kernel_rfl)
          have hb6_ := hall 6 (by kernel_rfl)
          have hb7_ := hall 7 (by kernel_rfl)
          have hb8_ := hall 8 (by kernel_rfl)
          have hb9_ := hall 9 (by kernel_rfl)
          have hb10_ := hall 10 (by kernel_rfl)
          have hb11_ := hall 11 (by kernel_rfl)
          have hb12_ := hall 12 (by kernel_rfl)
          have hb13_ := hall 13 (by kernel_rfl)
          have hb14_ := hall 14 (by kernel_rfl)
          have hb15_ := hall 15 (by kernel_rfl)
          have hb16_ := hall 16 (by kernel_rfl)
          have hb17_ := hall 17 (by kernel_rfl)
          have hb18_ := hall 18 (by kernel_rfl)
          have hb19_ := hall 19 (by kernel_rfl)
          have hb20_ := hall 20 (by kernel_rfl)
          subst ha
          obtain rfl := Q_X18_ hb18_
          obtain rfl := Q_X20_ hb20_
          simp only [putSel, hb0_, hb1_, hb2_, hb3_, hb4_, hb5_, hb6_, hb7_, hb8_, hb9_, hb10_, hb11_, hb12_, hb13_, hb14_, hb15_, hb16_, hb17_, hb18_, hb19_, hb20_, if_true, Act.put, List.setIfInBounds_toArray, List.set_cons_zero, List.set_cons_succ]
          have HB := Aside0.mk Q_HB
          clear Q_HB
          clear Q_NB
          clear Q_RV
          clear Q_EB
          have R1 := Aside0.mk (Q_R1 hb19_)
          clear Q_R1
          clear hall hb0_ hb1_ hb2_ hb3_ hb4_ hb5_ hb6_ hb7_ hb8_ hb9_ hb10_ hb11_ hb12_ hb13_ hb14_ hb15_ hb16_ hb17_ hb18_ hb19_ hb20_
          have HB5 := Lib.hid HB.out
          have HR5 := Lib.hid R1.out
          have hlt := HNP.out.2
          go_wp2_with fail
          exact ⟨⟨k + 1, by go_num, by omega, HB5, by rw [show ptsR l (k + 1) = _ from HS'.out]; rw [show ps ++ [twR ⟨Px, Py, false⟩, mdR ⟨Px, Py, false⟩ ⟨Qx, Qy, false⟩] = ps ++ [twR ⟨Px, Py, false⟩] ++ [mdR ⟨Px, Py, false⟩ ⟨Qx, Qy, false⟩] by simp]; exact HR5⟩, by simp [intOf]; omega⟩
      all_goals
        simp only [blkR, Bool.false_eq_true, Bool.true_eq_false, reduceCtorEq, false_and, and_false, if_false] at HS
        exact ⟨⟨k + 1, by go_num, by omega, HB3, by rw [show ptsR l (k + 1) = _ from HS.out]; exact HR3⟩, by simp [intOf]; omega⟩
    · have hkl : k = l.length := by omega
      subst hkl
      have hL := ptsR_len l l.length
      obtain ⟨L, hLL⟩ : ∃ L, ptsR l l.length = L := ⟨_, rfl⟩
      have HP : Hid (pcsR l = outR L L.length) := Lib.hid (by unfold pcsR; rw [hLL])
      rw [hLL] at HV hL
      obtain ⟨Av, cv, rfl⟩ := Kd.R_slice HV.out
      have HD := Lib.hid (Kd.R_reads' HV.out).2.2
      clear hLL HC HN HV hk hlt
      generalize wr = wo at *
      go_wp2_with fail
      go_loopw [7, 9] (fun v i wr' => ∃ k : Nat, i = .int .i64 k ∧ k ≤ L.length ∧ Hid (Below wo.heap.size wo wr') ∧ Hid (Kd.R k89 89 wr' wo.heap.size (fun _ => True) v (outR L k))) (fun _ i _ => L.length - (intOf i).toNat)
      case atStart => exact ⟨0, rfl, Nat.zero_le _, Lib.hid (Below.refl _ _), Lib.hid (Kd.R_nil _ _ _ _ _)⟩
      case round =>
        obtain ⟨k, rfl, hk, HBx, HVx⟩ := hrel
        obtain ⟨Ax, cx, rfl⟩ := Kd.R_slice HVx.out
        by_cases hlt : k < L.length
        · have d1 : decide (k < L.length) = true := decide_eq_true hlt
          have hp : 0 < L.length := by omega
          obtain ⟨ad, rfl, p0, p1, p2⟩ := pt_cells HD.out k hlt
          obtain ⟨ad', had, q0, q1, q2⟩ := pt_cells HD.out ((k + 1) % L.length) (Nat.mod_lt _ hp)
          cases had
          obtain ⟨ad', had, r0, r1, r2⟩ := pt_cells HD.out ((k + 2) % L.length) (Nat.mod_lt _ hp)
          cases had
          rw [show L.getD k z30 = ptAt L k from (ptAt_lt L hlt).symm] at p0 p1 p2
          rw [show L.getD ((k + 1) % L.length) z30 = ptAt L (k + 1) from rfl] at q0 q1 q2
          rw [show L.getD ((k + 2) % L.length) z30 = ptAt L (k + 2) from rfl] at r0 r1 r2
          have hz : ((L.length : Int) == 0) = false := beq_eq_false_iff_ne.2 (by omega)
          have hm1 : ((k : Int) + 1).tmod (L.length : Int) = (((k + 1) % L.length : Nat) : Int) := tmod_nat
          have hm2 : ((k : Int) + 2).tmod (L.length : Int) = (((k + 2) % L.length : Nat) : Int) := tmod_nat
          have hr1 : (k + 1) % L.length < L.length := Nat.mod_lt _ hp
          have hr2 : (k + 2) % L.length < L.length := Nat.mod_lt _ hp
          have HS : Hid (outR L (k + 1) = outR L k ++ itR (ptAt L k) (ptAt L (k + 1)) (ptAt L (k + 2))) := Lib.hid rfl
          have hol := outR_len L k
          generalize ptAt L k = P at *
          generalize ptAt L (k + 1) = Q at *
          generalize ptAt L (k + 2) = R at *
          generalize outR L k = os at *
          generalize (k + 1) % L.length = i1 at *
          generalize (k + 2) % L.length = i2 at *
          obtain ⟨Px, Py, Pf⟩ := P
          obtain ⟨Qx, Qy, Qf⟩ := Q
          obtain ⟨Rx, Ry, Rf⟩ := R
          dsimp only at p0 p1 p2 q0 q1 q2 r0 r1 r2
          have b0 : (0 : Int) ≤ (i1 : Int) := by omega
          have b1 : (i1 : Int) < (L.length : Int) := by omega
          have b2 : (0 : Int) ≤ (k : Int) := by omega
          have b3 : (k : Int) < (L.length : Int) := by omega
          have b4 : (0 : Int) ≤ (i2 : Int) := by omega
          have b5 : (i2 : Int) < (L.length : Int) := by omega
          have Q0 := Lib.hid q0
          have Q1 := Lib.hid q1
          have Q2 := Lib.hid q2
          have R0 := Lib.hid r0
          have R1 := Lib.hid r1
          have R2 := Lib.hid r2
          replace p0 := pw_cell_below HBx.out p0
          replace p1 := pw_cell_below HBx.out p1
          replace p2 := pw_cell_below HBx.out p2
          clear q0 q1 q2 r0 r1 r2
          go_upto_region 16 with fail
          obtain ⟨w1, g1, hw, hg, B1, HB1, _⟩ := new_box wr #[.int .i64 Px, .int .i64 Py, .bool Pf] 30
          rw [hw, hg]
          have HBa := Lib.hid (bthen' HBx.out HB1.out)
          have HVa := Lib.hid (Kd.R_below HVx.out HB1.out)
          have q0 := pw_cell_below HBa.out Q0.out
          have q1 := pw_cell_below HBa.out Q1.out
          have q2 := pw_cell_below HBa.out Q2.out
          clear p0 p1 p2 hw hg HBx HVx HB1
          go_upto_region 17 with fail
          obtain ⟨w2, g2, hw, hg, B2, HB2, _⟩ := new_box w1 #[.int .i64 Qx, .int .i64 Qy, .bool Qf] 30
          rw [hw, hg]
          have B1b := Lib.hid (B1.out.below HB2.out)
          have HBb := Lib.hid (bthen' HBa.out HB2.out)
          have HVb := Lib.hid (Kd.R_below HVa.out HB2.out)
          have e0 := B1b.out.cell 0
          have e1 := B1b.out.cell 1
          have e2 := B1b.out.cell 2
          have f0 := B2.out.cell 0
          have f1 := B2.out.cell 1
          have f2 := B2.out.cell 2
          simp only [List.getElem?_toArray, List.getElem?_cons_zero, List.getElem?_cons_succ] at e0 e1 e2 f0 f1 f2
          have r0 := pw_cell_below HBb.out R0.out
          have r1 := pw_cell_below HBb.out R1.out
          have r2 := pw_cell_below HBb.out R2.out
          clear q0 q1 q2 hw hg HBa HVa HB2 B1
          cases Pf
          · clear r0 r1 r2 f0 f1 f2 B2 B1b
            go_wp2_with fail
            exact ⟨⟨k + 1, by go_num, by omega, HBb, by rw [show outR L (k + 1) = _ from HS.out]; simp only [itR, Bool.false_eq_true, if_false, List.append_nil]; exact HVb⟩, by simp [intOf]; omega⟩
          · cases Qf
            · go_upto_region 20 with fail
              have YK := Aside0.mk (show IntKind.i64.wrap ((k : Int) + 2) = (k : Int) + 2 from IntWalk.i64_in _ (by omega))
              have YZ := Aside0.mk (show ¬ L = [] from fun e => by rw [e] at hlt; simp at hlt)
              have YM := Aside0.mk hm2
              have Y4 := Aside0.mk b4
              have Y5 := Aside0.mk b5
              have HL := Aside0.mk (show os.length ≤ 4000 by omega)
              have HKL := Lib.hid hlt
              clear e0 e1 e2 f0 f1 f2 r0 r1 r2 hz hm1 hm2 hr1 hr2 b0 b1 b2 b3 b4 b5 d1 hp hol
              refine start_ (n := 14) (S := fun w' => True) (ds := []) #[false, false, false, false, false, false, false, false, false, false, false, false, false, false] (by kernel_rfl) rfl rfl trivial (fun hHeld => ?_)
              refine with_tabW rfPcs.tab20 rfPcs.bits20 (fun HT_ HW_ => ?_)
              have HB : Aside0 (Below wo.heap.size wo w2.drew) := ⟨bdrew HBb.out⟩
              have N1 : Aside0 (Blk w2.drew g1 #[.int .i64 Px, .int .i64 Py, .bool true] 30) := ⟨B1b.out.drew⟩
              have N2 : Aside0 (Blk w2.drew g2 #[.int .i64 Qx, .int .i64 Qy, .bool false] 30) := ⟨B2.out.drew⟩
              have RV : Aside0 (Kd.R k89 89 w2.drew wo.heap.size (fun _ => True) (.slice Ax os.length cx) os) := ⟨Kd.R_below HVb.out (below_drew (Below.refl _ _))⟩
              generalize hwd : w2.drew = w1' at *
              clear hwd
              refine inv_at [0, 1, 2, 3, 4, 5, 6, 7, 8, 9, 10, 11, 12, 13] (fun a0_ b a w' => ∃ (ge : Nat) (v1 : Value) (m11_ : Value) (m13_ : Value), a = putSel a0_ b [(0, 94, .slice Ax os.length cx), (1, 95, .agg #[.int .i64 Px, .int .i64 Py, .bool true]), (2, 96, .agg #[.int .i64 Qx, .int .i64 Qy, .bool false]), (3, 97, .slice (some ad) L.length cv), (4, 98, .int .i64 k), (5, 99, .int .i64 (k + 2)), (6, 100, .int .i64 L.length), (7, 101, .int .i64 i2), (8, 102, .pointer (some (ad.add (i2 * 3)))), (9, 103, .agg #[.int .i64 Rx, .int .i64 Ry, .bool Rf]), (10, 104, .agg #[.int .i64 Px, .int .i64 Py, .bool true, .int .i64 Qx, .int .i64 Qy, .bool false, .int .i64 Rx, .int .i64 Ry, .bool Rf, .bool true]), (11, 105, m11_), (12, 106, v1), (13, 7, m13_)] ∧ (Below wo.heap.size wo w') ∧ (b 12 = false → Blk w' g1 #[.int .i64 Px, .int .i64 Py, .bool true] 30) ∧ (b 12 = false → Blk w' g2 #[.int .i64 Qx, .int .i64 Qy, .bool false] 30) ∧ (b 12 = false → Kd.R k89 89 w' wo.heap.size (fun _ => True) (.slice Ax os.length cx) os) ∧ (b 11 = true → b 12 = false → Blk w' ge #[.int .i64 Px, .int .i64 Py, .bool true, .int .i64 Qx, .int .i64 Qy, .bool false, .int .i64 Rx, .int .i64 Ry, .bool Rf, .bool true] 89) ∧ (b 12 = true → Kd.R k89 89 w' wo.heap.size (fun _ => True) v1 (os ++ [⟨⟨Px, Py, true⟩, ⟨Qx, Qy, false⟩, ⟨Rx, Ry, Rf⟩, true⟩])) ∧ (b 11 = true → (m11_ : Value) = .slice (some ⟨ge, 0, none⟩) 1 1) ∧ (b 13 = true → (m13_ : Value) = v1)) HT_.out HW_.out (by kernel_rfl) (by kernel_rfl) ?_ ?_ ?_
              · exact ⟨0, undef, .bool false, .bool false, by simp only [putSel, Bool.false_eq_true, if_false], HB.out, fun _ => N1.out, fun _ => N2.out, fun _ => RV.out, fun h_ => absurd h_ (by decide), fun h_ => absurd h_ (by decide), fun h_ => absurd h_ (by decide), fun h_ => absurd h_ (by decide)⟩
              · skip
                clear HB N1 N2 RV
                refine steps_cons ?_ ?_
                · rintro b a w' ⟨ge, v1, m11_, m13_, ha, Q_HB, Q_N1, Q_N2, Q_RV, Q_EB, Q_R1, Q_X11_, Q_X13_⟩ hb_ hon hoff
                  refine ⟨_, rfl, fun K hK => ?_⟩
                  have e7 : a.tmps[7]? = some (.slice Ax os.length cx) := by rw [ha]; exact (putSel_not (hoff 13 (by kernel_rfl)) rfl).trans rfl
                  replace ha := Aside0.mk ha
                  have HB := Aside0.mk Q_HB
                  have N1 := Aside0.mk (Q_N1 (hoff 12 (by kernel_rfl)))
                  have N2 := Aside0.mk (Q_N2 (hoff 12 (by kernel_rfl)))
                  have RV := Aside0.mk (Q_RV (hoff 12 (by kernel_rfl)))
                  refine value_ (w1 := w') (v := .slice Ax os.length cx) (by rfl) rfl ?_ ?_
                  · go_simp
                    (try simp only [i64_w])
                    try rfl
                  refine hK.out _ _ ⟨ge, v1, m11_, m13_, (by rw [ha.out]; exact putSel_upk 0 hb_ rfl rfl rfl), Q_HB, Q_N1, Q_N2, Q_RV, Q_EB, fun h0_ => absurd ((hoff 12 (by kernel_rfl)).symm.trans h0_) (by decide), Q_X11_, fun h0_ => absurd ((hoff 13 (by kernel_rfl)).symm.trans h0_) (by decide)⟩
                refine steps_cons ?_ ?_
                · rintro b a w' ⟨ge, v1, m11_, m13_, ha, Q_HB, Q_N1, Q_N2, Q_RV, Q_EB, Q_R1, Q_X11_, Q_X13_⟩ hb_ hon hoff
                  refine ⟨_, rfl, fun K hK => ?_⟩
                  have e10 : a.tmps[10]? = some (.pointer (some ⟨g1, 0, none⟩)) := by rw [ha]; exact (putSel_off rfl).trans rfl
                  replace ha := Aside0.mk ha
                  have HB := Aside0.mk Q_HB
                  have N1 := Aside0.mk (Q_N1 (hoff 12 (by kernel_rfl)))
                  have N2 := Aside0.mk (Q_N2 (hoff 12 (by kernel_rfl)))
                  have RV := Aside0.mk (Q_RV (hoff 12 (by kernel_rfl)))
                  have z10 : w'.cell? ⟨g1, 0, none⟩ = some (.int .i64 Px) := N1.out.cell 0
                  have z11 : w'.cell? ⟨g1, 1, none⟩ = some (.int .i64 Py) := N1.out.cell 1
                  have z12 : w'.cell? ⟨g1, 2, none⟩ = some (.bool true) := N1.out.cell 2
                  refine value_ (w1 := w') (v := .agg #[.int .i64 Px, .int .i64 Py, .bool true]) (by rfl) rfl ?_ ?_
                  · go_simp
                    (try simp only [i64_w])
                    try rfl
                  refine hK.out _ _ ⟨ge, v1, m11_, m13_, (by rw [ha.out]; exact putSel_upk 1 hb_ rfl rfl rfl), Q_HB, Q_N1, Q_N2, Q_RV, fun h0_ _ => absurd ((hoff 11 (by kernel_rfl)).symm.trans h0_) (by decide), fun h0_ => absurd ((hoff 12 (by kernel_rfl)).symm.trans h0_) (by decide), fun h0_ => absurd ((hoff 11 (by kernel_rfl)).symm.trans h0_) (by decide), fun h0_ => absurd ((hoff 13 (by kernel_rfl)).symm.trans h0_) (by decide)⟩
                refine steps_cons ?_ ?_
                · rintro b a w' ⟨ge, v1, m11_, m13_, ha, Q_HB, Q_N1, Q_N2, Q_RV, Q_EB, Q_R1, Q_X11_, Q_X13_⟩ hb_ hon hoff
                  refine ⟨_, rfl, fun K hK => ?_⟩
                  have e11 : a.tmps[11]? = some (.pointer (some ⟨g2, 0, none⟩)) := by rw [ha]; exact (putSel_off rfl).trans rfl
                  replace ha := Aside0.mk ha
                  have HB := Aside0.mk Q_HB
                  have N1 := Aside0.mk (Q_N1 (hoff 12 (by kernel_rfl)))
                  have N2 := Aside0.mk (Q_N2 (hoff 12 (by kernel_rfl)))
                  have RV := Aside0.mk (Q_RV (hoff 12 (by kernel_rfl)))
                  have z10 : w'.cell? ⟨g2, 0, none⟩ = some (.int .i64 Qx) := N2.out.cell 0
                  have z11 : w'.cell? ⟨g2, 1, none⟩ = some (.int .i64 Qy) := N2.out.cell 1
                  have z12 : w'.cell? ⟨g2, 2, none⟩ = some (.bool false) := N2.out.cell 2
                  refine value_ (w1 := w') (v := .agg #[.int .i64 Qx, .int .i64 Qy, .bool false]) (by rfl) rfl ?_ ?_
                  · go_simp
                    (try simp only [i64_w])
                    try rfl
                  refine hK.out _ _ ⟨ge, v1, m11_, m13_, (by rw [ha.out]; exact putSel_upk 2 hb_ rfl rfl rfl), Q_HB, Q_N1, Q_N2, Q_RV, fun h0_ _ => absurd ((hoff 11 (by kernel_rfl)).symm.trans h0_) (by decide), fun h0_ => absurd ((hoff 12 (by kernel_rfl)).symm.trans h0_) (by decide), fun h0_ => absurd ((hoff 11 (by kernel_rfl)).symm.trans h0_) (by decide), fun h0_ => absurd ((hoff 13 (by kernel_rfl)).symm.trans h0_) (by decide)⟩
                refine steps_cons ?_ ?_
                · rintro b a w' ⟨ge, v1, m11_, m13_, ha, Q_HB, Q_N1, Q_N2, Q_RV, Q_EB, Q_R1, Q_X11_, Q_X13_⟩ hb_ hon hoff
                  refine ⟨_, rfl, fun K hK => ?_⟩
                  have e3 : a.tmps[3]? = some (.slice (some ad) L.length cv) := by rw [ha]; exact (putSel_off rfl).trans rfl
                  replace ha := Aside0.mk ha
                  have HB := Aside0.mk Q_HB
                  have N1 := Aside0.mk (Q_N1 (hoff 12 (by kernel_rfl)))
                  have N2 := Aside0.mk (Q_N2 (hoff 12 (by kernel_rfl)))
                  have RV := Aside0.mk (Q_RV (hoff 12 (by kernel_rfl)))
                  refine value_ (w1 := w') (v := .slice (some ad) L.length cv) (by rfl) rfl ?_ ?_
                  · go_simp
                    (try simp only [i64_w])
                    try rfl
                  refine hK.out _ _ ⟨ge, v1, m11_, m13_, (by rw [ha.out]; exact putSel_upk 3 hb_ rfl rfl rfl), Q_HB, Q_N1, Q_N2, Q_RV, fun h0_ _ => absurd ((hoff 11 (by kernel_rfl)).symm.trans h0_) (by decide), fun h0_ => absurd ((hoff 12 (by kernel_rfl)).symm.trans h0_) (by decide), fun h0_ => absurd ((hoff 11 (by kernel_rfl)).symm.trans h0_) (by decide), fun h0_ => absurd ((hoff 13 (by kernel_rfl)).symm.trans h0_) (by decide)⟩
                refine steps_cons ?_ ?_
                · rintro b a w' ⟨ge, v1, m11_, m13_, ha, Q_HB, Q_N1, Q_N2, Q_RV, Q_EB, Q_R1, Q_X11_, Q_X13_⟩ hb_ hon hoff
                  refine ⟨_, rfl, fun K hK => ?_⟩
                  have e9 : a.tmps[9]? = some (.int .i64 k) := by rw [ha]; exact (putSel_off rfl).trans rfl
                  replace ha := Aside0.mk ha
                  have HB := Aside0.mk Q_HB
                  have N1 := Aside0.mk (Q_N1 (hoff 12 (by kernel_rfl)))
                  have N2 := Aside0.mk (Q_N2 (hoff 12 (by kernel_rfl)))
                  have RV := Aside0.mk (Q_RV (hoff 12 (by kernel_rfl)))
                  refine value_ (w1 := w') (v := .int .i64 k) (by rfl) rfl ?_ ?_
                  · go_simp
                    (try simp only [i64_w])
                    try rfl
                  refine hK.out _ _ ⟨ge, v1, m11_, m13_, (by rw [ha.out]; exact putSel_upk 4 hb_ rfl rfl rfl), Q_HB, Q_N1, Q_N2, Q_RV, fun h0_ _ => absurd ((hoff 11 (by kernel_rfl)).symm.trans h0_) (by decide), fun h0_ => absurd ((hoff 12 (by kernel_rfl)).symm.trans h0_) (by decide), fun h0_ => absurd ((hoff 11 (by kernel_rfl)).symm.trans h0_) (by decide), fun h0_ => absurd ((hoff 13 (by kernel_rfl)).symm.trans h0_) (by decide)⟩
                refine steps_cons ?_ ?_
                · rintro b a w' ⟨ge, v1, m11_, m13_, ha, Q_HB, Q_N1, Q_N2, Q_RV, Q_EB, Q_R1, Q_X11_, Q_X13_⟩ hb_ hon hoff
                  refine ⟨_, rfl, fun K hK => ?_⟩
                  have e98 : a.tmps[98]? = some (.int .i64 k) := by rw [ha]; exact putSel_on (e := (4, 98, .int .i64 k)) 4 rfl rfl (hon 4 (by kernel_rfl)) rfl
                  replace ha := Aside0.mk ha
                  have HB := Aside0.mk Q_HB
                  have N1 := Aside0.mk (Q_N1 (hoff 12 (by kernel_rfl)))
                  have N2 := Aside0.mk (Q_N2 (hoff 12 (by kernel_rfl)))
                  have RV := Aside0.mk (Q_RV (hoff 12 (by kernel_rfl)))
                  have y2 := YK.out
                  refine value_ (w1 := w') (v := .int .i64 (k + 2)) (by rfl) rfl ?_ ?_
                  · go_simp
                    (try simp only [i64_w])
                    try rfl
                  refine hK.out _ _ ⟨ge, v1, m11_, m13_, (by rw [ha.out]; exact putSel_upk 5 hb_ rfl rfl rfl), Q_HB, Q_N1, Q_N2, Q_RV, fun h0_ _ => absurd ((hoff 11 (by kernel_rfl)).symm.trans h0_) (by decide), fun h0_ => absurd ((hoff 12 (by kernel_rfl)).symm.trans h0_) (by decide), fun h0_ => absurd ((hoff 11 (by kernel_rfl)).symm.trans h0_) (by decide), fun h0_ => absurd ((hoff 13 (by kernel_rfl)).symm.trans h0_) (by decide)⟩
                refine steps_cons ?_ ?_
                · rintro b a w' ⟨ge, v1, m11_, m13_, ha, Q_HB, Q_N1, Q_N2, Q_RV, Q_EB, Q_R1, Q_X11_, Q_X13_⟩ hb_ hon hoff
                  refine ⟨_, rfl, fun K hK => ?_⟩
                  have e8 : a.tmps[8]? = some (.int .i64 L.length) := by rw [ha]; exact (putSel_off rfl).trans rfl
                  replace ha := Aside0.mk ha
                  have HB := Aside0.mk Q_HB
                  have N1 := Aside0.mk (Q_N1 (hoff 12 (by kernel_rfl)))
                  have N2 := Aside0.mk (Q_N2 (hoff 12 (by kernel_rfl)))
                  have RV := Aside0.mk (Q_RV (hoff 12 (by kernel_rfl)))
                  refine value_ (w1 := w') (v := .int .i64 L.length) (by rfl) rfl ?_ ?_
                  · go_simp
                    (try simp only [i64_w])
                    try rfl
                  refine hK.out _ _ ⟨ge, v1, m11_, m13_, (by rw [ha.out]; exact putSel_upk 6 hb_ rfl rfl rfl), Q_HB, Q_N1, Q_N2, Q_RV, fun h0_ _ => absurd ((hoff 11 (by kernel_rfl)).symm.trans h0_) (by decide), fun h0_ => absurd ((hoff 12 (by kernel_rfl)).symm.trans h0_) (by decide), fun h0_ => absurd ((hoff 11 (by kernel_rfl)).symm.trans h0_) (by decide), fun h0_ => absurd ((hoff 13 (by kernel_rfl)).symm.trans h0_) (by decide)⟩
                refine steps_cons ?_ ?_
                · rintro b a w' ⟨ge, v1, m11_, m13_, ha, Q_HB, Q_N1, Q_N2, Q_RV, Q_EB, Q_R1, Q_X11_, Q_X13_⟩ hb_ hon hoff
                  refine ⟨_, rfl, fun K hK => ?_⟩
                  have e99 : a.tmps[99]? = some (.int .i64 (k + 2)) := by rw [ha]; exact putSel_on (e := (5, 99, .int .i64 (k + 2))) 5 rfl rfl (hon 5 (by kernel_rfl)) rfl
                  have e100 : a.tmps[100]? = some (.int .i64 L.length) := by rw [ha]; exact putSel_on (e := (6, 100, .int .i64 L.length)) 6 rfl rfl (hon 6 (by kernel_rfl)) rfl
                  replace ha := Aside0.mk ha
                  have HB := Aside0.mk Q_HB
                  have N1 := Aside0.mk (Q_N1 (hoff 12 (by kernel_rfl)))
                  have N2 := Aside0.mk (Q_N2 (hoff 12 (by kernel_rfl)))
                  have RV := Aside0.mk (Q_RV (hoff 12 (by kernel_rfl)))
                  have y3 := YZ.out
                  have y4 := YM.out
                  refine value_ (w1 := w') (v := .int .i64 i2) (by rfl) rfl ?_ ?_
                  · go_simp
                    (try simp only [i64_w])
                    try rfl
                  refine hK.out _ _ ⟨ge, v1, m11_, m13_, (by rw [ha.out]; exact putSel_upk 7 hb_ rfl rfl rfl), Q_HB, Q_N1, Q_N2, Q_RV, fun h0_ _ => absurd ((hoff 11 (by kernel_rfl)).symm.trans h0_) (by decide), fun h0_ => absurd ((hoff 12 (by kernel_rfl)).symm.trans h0_) (by decide), fun h0_ => absurd ((hoff 11 (by kernel_rfl)).symm.trans h0_) (by decide), fun h0_ => absurd ((hoff 13 (by kernel_rfl)).symm.trans h0_) (by decide)⟩
                refine steps_cons ?_ ?_
                · rintro b a w' ⟨ge, v1, m11_, m13_, ha, Q_HB, Q_N1, Q_N2, Q_RV, Q_EB, Q_R1, Q_X11_, Q_X13_⟩ hb_ hon hoff
                  refine ⟨_, rfl, fun K hK => ?_⟩
                  have e97 : a.tmps[97]? = some (.slice (some ad) L.length cv) := by rw [ha]; exact putSel_on (e := (3, 97, .slice (some ad) L.length cv)) 3 rfl rfl (hon 3 (by kernel_rfl)) rfl
                  have e101 : a.tmps[101]? = some (.int .i64 i2) := by rw [ha]; exact putSel_on (e := (7, 101, .int .i64 i2)) 7 rfl rfl (hon 7 (by kernel_rfl)) rfl
                  replace ha := Aside0.mk ha
                  have HB := Aside0.mk Q_HB
                  have N1 := Aside0.mk (Q_N1 (hoff 12 (by kernel_rfl)))
                  have N2 := Aside0.mk (Q_N2 (hoff 12 (by kernel_rfl)))
                  have RV := Aside0.mk (Q_RV (hoff 12 (by kernel_rfl)))
                  have y5 := Y4.out
                  have y6 := Y5.out
                  refine value_ (w1 := w') (v := .pointer (some (ad.add (i2 * 3)))) (by rfl) rfl ?_ ?_
                  · go_simp
                    (try simp only [i64_w])
                    try rfl
                  refine hK.out _ _ ⟨ge, v1, m11_, m13_, (by rw [ha.out]; exact putSel_upk 8 hb_ rfl rfl rfl), Q_HB, Q_N1, Q_N2, Q_RV, fun h0_ _ => absurd ((hoff 11 (by kernel_rfl)).symm.trans h0_) (by decide), fun h0_ => absurd ((hoff 12 (by kernel_rfl)).symm.trans h0_) (by decide), fun h0_ => absurd ((hoff 11 (by kernel_rfl)).symm.trans h0_) (by decide), fun h0_ => absurd ((hoff 13 (by kernel_rfl)).symm.trans h0_) (by decide)⟩
                refine steps_cons ?_ ?_
                · rintro b a w' ⟨ge, v1, m11_, m13_, ha, Q_HB, Q_N1, Q_N2, Q_RV, Q_EB, Q_R1, Q_X11_, Q_X13_⟩ hb_ hon hoff
                  refine ⟨_, rfl, fun K hK => ?_⟩
                  have e102 : a.tmps[102]? = some (.pointer (some (ad.add (i2 * 3)))) := by rw [ha]; exact putSel_on (e := (8, 102, .pointer (some (ad.add (i2 * 3))))) 8 rfl rfl (hon 8 (by kernel_rfl)) rfl
                  replace ha := Aside0.mk ha
                  have HB := Aside0.mk Q_HB
                  have N1 := Aside0.mk (Q_N1 (hoff 12 (by kernel_rfl)))
                  have N2 := Aside0.mk (Q_N2 (hoff 12 (by kernel_rfl)))
                  have RV := Aside0.mk (Q_RV (hoff 12 (by kernel_rfl)))
                  have z10 : w'.cell? (ad.add (i2 * 3)) = some (.int .i64 Rx) := pw_cell_below HB.out R0.out
                  have z11 : w'.cell? ⟨(ad.add (i2 * 3)).block, (ad.add (i2 * 3)).off + 1, none⟩ = some (.int .i64 Ry) := pw_cell_below HB.out R1.out
                  have z12 : w'.cell? ⟨(ad.add (i2 * 3)).block, (ad.add (i2 * 3)).off + 2, none⟩ = some (.bool Rf) := pw_cell_below HB.out R2.out
                  refine value_ (w1 := w') (v := .agg #[.int .i64 Rx, .int .i64 Ry, .bool Rf]) (by rfl) rfl ?_ ?_
                  · go_simp
                    (try simp only [i64_w])
                    try rfl
                  refine hK.out _ _ ⟨ge, v1, m11_, m13_, (by rw [ha.out]; exact putSel_upk 9 hb_ rfl rfl rfl), Q_HB, Q_N1, Q_N2, Q_RV, fun h0_ _ => absurd ((hoff 11 (by kernel_rfl)).symm.trans h0_) (by decide), fun h0_ => absurd ((hoff 12 (by kernel_rfl)).symm.trans h0_) (by decide), fun h0_ => absurd ((hoff 11 (by kernel_rfl)).symm.trans h0_) (by decide), fun h0_ => absurd ((hoff 13 (by kernel_rfl)).symm.trans h0_) (by decide)⟩
                refine steps_cons ?_ ?_
                · rintro b a w' ⟨ge, v1, m11_, m13_, ha, Q_HB, Q_N1, Q_N2, Q_RV, Q_EB, Q_R1, Q_X11_, Q_X13_⟩ hb_ hon hoff
                  refine ⟨_, rfl, fun K hK => ?_⟩
                  have e95 : a.tmps[95]? = some (.agg #[.int .i64 Px, .int .i64 Py, .bool true]) := by rw [ha]; exact putSel_on (e := (1, 95, .agg #[.int .i64 Px, .int .i64 Py, .bool true])) 1 rfl rfl (hon 1 (by kernel_rfl)) rfl
                  have e96 : a.tmps[96]? = some (.agg #[.int .i64 Qx, .int .i64 Qy, .bool false]) := by rw [ha]; exact putSel_on (e := (2, 96, .agg #[.int .i64 Qx, .int .i64 Qy, .bool false])) 2 rfl rfl (hon 2 (by kernel_rfl)) rfl
                  have e103 : a.tmps[103]? = some (.agg #[.int .i64 Rx, .int .i64 Ry, .bool Rf]) := by rw [ha]; exact putSel_on (e := (9, 103, .agg #[.int .i64 Rx, .int .i64 Ry, .bool Rf])) 9 rfl rfl (hon 9 (by kernel_rfl)) rfl
                  replace ha := Aside0.mk ha
                  have HB := Aside0.mk Q_HB
                  have N1 := Aside0.mk (Q_N1 (hoff 12 (by kernel_rfl)))
                  have N2 := Aside0.mk (Q_N2 (hoff 12 (by kernel_rfl)))
                  have RV := Aside0.mk (Q_RV (hoff 12 (by kernel_rfl)))
                  refine value_ (w1 := w') (v := .agg #[.int .i64 Px, .int .i64 Py, .bool true, .int .i64 Qx, .int .i64 Qy, .bool false, .int .i64 Rx, .int .i64 Ry, .bool Rf, .bool true]) (by rfl) rfl ?_ ?_
                  · go_simp
                    (try simp only [i64_w])
                    try rfl
                  refine hK.out _ _ ⟨ge, v1, m11_, m13_, (by rw [ha.out]; exact putSel_upk 10 hb_ rfl rfl rfl), Q_HB, Q_N1, Q_N2, Q_RV, fun h0_ _ => absurd ((hoff 11 (by kernel_rfl)).symm.trans h0_) (by decide), fun h0_ => absurd ((hoff 12 (by kernel_rfl)).symm.trans h0_) (by decide), fun h0_ => absurd ((hoff 11 (by kernel_rfl)).symm.trans h0_) (by decide), fun h0_ => absurd ((hoff 13 (by kernel_rfl)).symm.trans h0_) (by decide)⟩
                refine steps_cons ?_ ?_
                · rintro b a w' ⟨ge, v1, m11_, m13_, ha, Q_HB, Q_N1, Q_N2, Q_RV, Q_EB, Q_R1, Q_X11_, Q_X13_⟩ hb_ hon hoff
                  refine ⟨_, rfl, fun K hK => ?_⟩
                  have e104 : a.tmps[104]? = some (.agg #[.int .i64 Px, .int .i64 Py, .bool true, .int .i64 Qx, .int .i64 Qy, .bool false, .int .i64 Rx, .int .i64 Ry, .bool Rf, .bool true]) := by rw [ha]; exact putSel_on (e := (10, 104, .agg #[.int .i64 Px, .int .i64 Py, .bool true, .int .i64 Qx, .int .i64 Qy, .bool false, .int .i64 Rx, .int .i64 Ry, .bool Rf, .bool true])) 10 rfl rfl (hon 10 (by kernel_rfl)) rfl
                  replace ha := Aside0.mk ha
                  have HB := Aside0.mk Q_HB
                  have N1 := Aside0.mk (Q_N1 (hoff 12 (by kernel_rfl)))
                  have N2 := Aside0.mk (Q_N2 (hoff 12 (by kernel_rfl)))
                  have RV := Aside0.mk (Q_RV (hoff 12 (by kernel_rfl)))
                  refine value_ (w1 := w'.alloc (.cells #[.int .i64 Px, .int .i64 Py, .bool true, .int .i64 Qx, .int .i64 Qy, .bool false, .int .i64 Rx, .int .i64 Ry, .bool Rf, .bool true] 89)) (v := .slice (some ⟨w'.heap.size, 0, none⟩) 1 1) (by rfl) rfl ?_ ?_
                  · go_simp
                  refine hK.out _ _ ⟨w'.heap.size, v1, (.slice (some ⟨w'.heap.size, 0, none⟩) 1 1), m13_, (by rw [ha.out]; exact putSel_upk 11 hb_ rfl rfl rfl), bthen' HB.out (below_alloc (Below.refl _ w') _), fun _ => N1.out.alloc _, fun _ => N2.out.alloc _, fun _ => Kd.R_below RV.out (below_alloc (Below.refl _ w') _), fun _ _ => Blk.new w' _ _ rfl, fun h0_ => absurd ((hoff 12 (by kernel_rfl)).symm.trans h0_) (by decide), fun _ => rfl, fun h0_ => absurd ((hoff 13 (by kernel_rfl)).symm.trans h0_) (by decide)⟩
                refine steps_cons ?_ ?_
                · rintro b a w' ⟨ge, v1, m11_, m13_, ha, Q_HB, Q_N1, Q_N2, Q_RV, Q_EB, Q_R1, Q_X11_, Q_X13_⟩ hb_ hon hoff
                  refine ⟨_, rfl, fun K hK => ?_⟩
                  have e94 : a.tmps[94]? = some (.slice Ax os.length cx) := by rw [ha]; exact putSel_on (e := (0, 94, .slice Ax os.length cx)) 0 rfl rfl (hon 0 (by kernel_rfl)) rfl
                  have e105 : a.tmps[105]? = some (m11_) := by rw [ha]; exact putSel_on (e := (11, 105, m11_)) 11 rfl rfl (hon 11 (by kernel_rfl)) rfl
                  rw [Q_X11_ (hon 11 (by kernel_rfl))] at e105
                  replace ha := Aside0.mk ha
                  have HB := Aside0.mk Q_HB
                  have N1 := Aside0.mk (Q_N1 hb_)
                  have N2 := Aside0.mk (Q_N2 hb_)
                  have RV := Aside0.mk (Q_RV hb_)
                  have EB := Aside0.mk (Q_EB (hon 11 (by kernel_rfl)) hb_)
                  obtain ⟨vv, w2, hr, o1, o2, o3⟩ := append_kd (d := k89) 86 89 _ 80 Tryd.underlying86 info89 rfl (by decide) (by omega) RV.out HB.out HB.out.size ge ⟨⟨Px, Py, true⟩, ⟨Qx, Qy, false⟩, ⟨Rx, Ry, Rf⟩, true⟩ [.int .i64 Px, .int .i64 Py, .bool true, .int .i64 Qx, .int .i64 Qy, .bool false, .int .i64 Rx, .int .i64 Ry, .bool Rf, .bool true] EB.out (k89_mkM _ _ _ ⟨⟨Px, Py, true⟩, ⟨Qx, Qy, false⟩, ⟨Rx, Ry, Rf⟩, true⟩) (by have := HL.out; (try simp only [List.length_append, List.length_singleton]); omega)
                  refine value_ (w1 := w2) (v := vv) (by rfl) rfl ?_ ?_
                  · exact run_append_opU (by rfl) (by assumption) (by assumption) hr
                  refine hK.out _ _ ⟨ge, vv, m11_, m13_, (by rw [ha.out]; exact putSel_upk 12 hb_ rfl rfl rfl), o2, fun h0_ => absurd ((up_self b 12).symm.trans h0_) (by decide), fun h0_ => absurd ((up_self b 12).symm.trans h0_) (by decide), fun h0_ => absurd ((up_self b 12).symm.trans h0_) (by decide), fun _ h1_ => absurd ((up_self b 12).symm.trans h1_) (by decide), fun _ => o1, Q_X11_, fun h0_ => absurd ((hoff 13 (by kernel_rfl)).symm.trans h0_) (by decide)⟩
                refine steps_cons ?_ ?_
                · rintro b a w' ⟨ge, v1, m11_, m13_, ha, Q_HB, Q_N1, Q_N2, Q_RV, Q_EB, Q_R1, Q_X11_, Q_X13_⟩ hb_ hon hoff
                  refine ⟨_, rfl, fun K hK => ?_⟩
                  have e106 : a.tmps[106]? = some (v1) := by rw [ha]; exact putSel_on (e := (12, 106, v1)) 12 rfl rfl (hon 12 (by kernel_rfl)) rfl
                  replace ha := Aside0.mk ha
                  have HB := Aside0.mk Q_HB
                  have R1 := Aside0.mk (Q_R1 (hon 12 (by kernel_rfl)))
                  refine value_ (w1 := w') (v := v1) (by rfl) rfl ?_ ?_
                  · go_simp
                    (try simp only [i64_w])
                    try rfl
                  refine hK.out _ _ ⟨ge, v1, m11_, (v1), (by rw [ha.out]; exact putSel_upk 13 hb_ rfl rfl rfl), Q_HB, fun h0_ => absurd ((hon 12 (by kernel_rfl)).symm.trans h0_) (by decide), fun h0_ => absurd ((hon 12 (by kernel_rfl)).symm.trans h0_) (by decide), fun h0_ => absurd ((hon 12 (by kernel_rfl)).symm.trans h0_) (by decide), fun _ h1_ => absurd ((hon 12 (by kernel_rfl)).symm.trans h1_) (by decide), Q_R1, Q_X11_, fun _ => rfl⟩
                exact steps_nil
              · rintro b a w' hall ⟨ge, v1, m11_, m13_, ha, Q_HB, Q_N1, Q_N2, Q_RV, Q_EB, Q_R1, Q_X11_, Q_X13_⟩
                clear HB N1 N2 RV
                have hb0_ := hall 0 (by kernel_rfl)
                have hb1_ := hall 1 (by kernel_rfl)
                have hb2_ := hall 2 (by kernel_rfl)
                have hb3_ := hall 3 (by kernel_rfl)
                have hb4_ := hall 4 (by kernel_rfl)
                have hb5_ := hall 5 (by kernel_rfl)
                have hb6_ := hall 6 (by kernel_rfl)
                have hb7_ := hall 7 (by kernel_rfl)
                have hb8_ := hall 8 (by kernel_rfl)
                have hb9_ := hall 9 (by kernel_rfl)
                have hb10_ := hall 10 (by kernel_rfl)
                have hb11_ := hall 11 (by kernel_rfl)
                have hb12_ := hall 12 (by kernel_rfl)
                have hb13_ := hall 13 (by kernel_rfl)
                subst ha
                obtain rfl := Q_X11_ hb11_
                obtain rfl := Q_X13_ hb13_
                simp only [putSel, hb0_, hb1_, hb2_, hb3_, hb4_, hb5_, hb6_, hb7_, hb8_, hb9_, hb10_, hb11_, hb12_, hb13_, if_true, Act.put, List.setIfInBounds_toArray, List.set_cons_zero, List.set_cons_succ]
                have HB := Aside0.mk Q_HB
                clear Q_HB
                clear Q_N1
                clear Q_N2
                clear Q_RV
                clear Q_EB
                have R1 := Aside0.mk (Q_R1 hb12_)
                clear Q_R1
                clear hall hb0_ hb1_ hb2_ hb3_ hb4_ hb5_ hb6_ hb7_ hb8_ hb9_ hb10_ hb11_ hb12_ hb13_
                have HB5 := Lib.hid HB.out
                have HR5 := Lib.hid R1.out
                have hlt := HKL.out
                go_wp2_with fail
                exact ⟨⟨k + 1, by go_num, by omega, HB5, by rw [show outR L (k + 1) = _ from HS.out]; exact HR5⟩, by simp [intOf]; omega⟩
            · clear r0 r1 r2 B2 B1b
              go_wp2_with (at_builtin; go_loud (refine Kd.R_append k89 (W := w2) (w0 := wo) wo.heap.size rfl (.tmp 88) (.tmp 92) 86 89 _ 80 rfl Tryd.underlying86 info89 rfl (by decide) (by omega) (.slice Ax os.length cx) os ⟨⟨Px, Py, true⟩, z30, ⟨Qx, Qy, true⟩, false⟩ [.int .i64 Px, .int .i64 Py, .bool true, .int .i64 0, .int .i64 0, .bool false, .int .i64 Qx, .int .i64 Qy, .bool true, .bool false] (fun _ => True) (fun _ => False) rfl rfl (k89_mkM _ _ _ ⟨⟨Px, Py, true⟩, z30, ⟨Qx, Qy, true⟩, false⟩) (fun _ h => h.elim) (fun _ _ => trivial) HVb.out HBb.out HBb.out.size (by omega) ?_); intro v5 w5 hR5 hB5 hG5 hat5; have HR5 := Lib.hid hR5; have HB5 := Lib.hid hB5; clear hR5 hB5 hG5 hat5 HVb HBb)
              exact ⟨⟨k + 1, by go_num, by omega, HB5, by rw [show outR L (k + 1) = _ from HS.out]; exact HR5⟩, by simp [intOf]; omega⟩
        · have hkl : k = L.length := by omega
          subst hkl
          go_wp2_with fail
          go_ret
          exact ⟨_, rfl, by rw [HP.out]; exact Kd.R_lower HVx.out HBr.out.size, bthen' HBr.out HBx.out⟩
end Go.Proofs.YtleljodcdbhifaaDoor
/- The reference's Trim, at bitmaps that are right: what the program's does. -/
set_option linter.unusedVariables false
set_option linter.unusedSimpArgs false
namespace Go.Proofs.YtleljodcdbhifaaDoor
open Go.RowKit Go.Proofs.YtleljodcdbhifaaDoorW.PrintWords Go.Proofs.YtleljodcdbhifaaDoorW.PrintLast Go.Proofs.YtleljodcdbhifaaDoorW.PrintMore Hy
attribute [local go_sem ↓] Go.wp_at_zero Go.wp_at_succ
def rfTrm.T20 : Bool × List (List Nat × List Nat) := (true, [([], []), ([0], [0]), ([], []), ([2], [2]), ([], []), ([3, 4], [3, 4]), ([5], [5]), ([], []), ([6, 7], [6, 7]), ([8], [8]), ([1, 9], [1, 9]), ([0, 1, 2, 3, 4, 5, 6, 7, 8, 9, 10], []), ([11, 10, 10, 0, 1, 2, 3, 4, 5, 6, 7, 8, 9, 10], [10, 11])])
def rfTrm.B20 : List Nat := [0, 1, 0, 4, 0, 28, 60, 0, 252, 508, 1023, 2047, 4095]
theorem rfTrm.tab20 : rtab .any (opsOf Tryd.f37 20) = rfTrm.T20 := by kernel_rfl
theorem rfTrm.bits20 : waitsOk rfTrm.T20.2 rfTrm.B20 = true := by kernel_rfl
set_option maxRecDepth 100000 in
set_option maxHeartbeats 40000000 in
theorem trimR_any (L T : Int) (wn : Nat) (A : Option Addr) (c : Nat) (l : List Int) (w : World) (hr : Kd.C (Kd.int .u64) w A l.length l) (hu : ∀ r ∈ l, u64 r) (hok : okB L T wn l.length l = true) :
    Calls Tryd.prog 37 #[.agg #[.int .i64 L, .int .i64 T, .int .i64 (wn : Int), .int .i64 (l.length : Int), .slice A l.length c]] w fun e w' => ∃ v, e = .returned (.agg #[.int .i64 (trimB ⟨L, T, wn, l.length, l⟩).L, .int .i64 (trimB ⟨L, T, wn, l.length, l⟩).T, .int .i64 (trimB ⟨L, T, wn, l.length, l⟩).W, .int .i64 (trimB ⟨L, T, wn, l.length, l⟩).H, v]) ∧ Kd.R (Kd.int .u64) 59 w' w.heap.size (fun _ => True) v (trimB ⟨L, T, wn, l.length, l⟩).rows ∧ Below w.heap.size w w' := by
  have hu36 := Tryd.underlying36
  obtain ⟨⟨hW1, hW2⟩, ⟨hH1, hH2⟩, _, ⟨hL1, hL2⟩, ⟨hT1, hT2⟩⟩ := ok_facts hok
  have hwn : 1 ≤ wn ∧ wn ≤ 64 := by omega
  have hln : 1 ≤ l.length ∧ l.length ≤ 64 := by omega
  have HFT : Hid (∀ r ∈ l, fitB wn r = false) := Lib.hid (by
    unfold okB at hok
    rw [Bool.and_eq_true, Bool.not_eq_true', List.any_eq_false] at hok
    intro r hr
    have := hok.2 r hr
    rw [Bool.not_eq_true] at this
    exact this)
  have HRG : Hid (rightB L T wn l.length l = true) := Lib.hid (by unfold rightB; rw [hok, Bool.or_true])
  have HR := Lib.hid hr
  have HU := Lib.hid hu
  have hLL : -10000 ≤ L ∧ L ≤ 10001 - wn := ⟨hL1, hL2⟩
  have hTT : -10000 ≤ T ∧ T ≤ 10001 - l.length := ⟨hT1, hT2⟩
  clear hr hu hok hW1 hW2 hH1 hH2 hL1 hL2 hT1 hT2
  go_enter Tryd.func37, Tryd.ntmps37
  go_upto_region 1 with fail
  obtain ⟨w1, gb, hw, hg, B1, HB1, HN1⟩ := new_box w #[.int .i64 L, .int .i64 T, .int .i64 (wn : Int), .int .i64 (l.length : Int), .slice A l.length c] 36
  obtain ⟨w2, gr, hw2, hg2, B2, HB2, HN2⟩ := new_box w1 #[.int .i64 0, .int .i64 0, .int .i64 0, .int .i64 0, .slice none 0 0] 36
  have eg : gb + 1 = gr := by rw [← hg2, ← hw, World.size_alloc, hg]
  rw [hw, hw2, hg, eg]
  have HBa := Lib.hid (bthen' HB1.out HB2.out)
  have BBa := Lib.hid (B1.out.below HB2.out)
  have GE4 := Lib.hid (show w.heap.size ≤ gr by omega)
  have N34 := Lib.hid (show gb ≠ gr by omega)
  clear hw hw2 hg hg2 eg HN1 HN2 HB1 B1 HB2
  have k0 := BBa.out.cell 0
  have k1 := BBa.out.cell 1
  have k2 := BBa.out.cell 2
  have k3 := BBa.out.cell 3
  have k4 := BBa.out.cell 4
  simp only [List.getElem?_toArray, List.getElem?_cons_zero, List.getElem?_cons_succ] at k0 k1 k2 k3 k4
  go_wp2_with fail
  refine (rightR_any L T wn l.length A c l w2 (Kd.C_below HR.out HBa.out) HU.out hwn hln rfl hLL hTT HFT.out).mono ?_
  rintro e w3 ⟨rfl, hb⟩
  have HB3 := Lib.hid (bthen' HBa.out hb)
  have BB3 := Lib.hid (BBa.out.below hb)
  have ZB3 := Lib.hid (B2.out.below hb)
  clear hb k0 k1 k2 k3 k4 HBa BBa B2
  have k2 := BB3.out.cell 2
  have k3 := BB3.out.cell 3
  have k4 := BB3.out.cell 4
  simp only [List.getElem?_toArray, List.getElem?_cons_zero, List.getElem?_cons_succ] at k2 k3 k4
  go_wp2_with fail
  go_loop [4, 5, 6, 7, 8] (fun p4 p5 p6 p7 i => ∃ (k : Nat) (a e t b : Int), i = .int .i64 k ∧ p4 = .int .i64 a ∧ p5 = .int .i64 e ∧ p6 = .int .i64 t ∧ p7 = .int .i64 b ∧ k ≤ l.length ∧ Hid (Ext (SN l wn k 0) a e t b)) (fun _ _ _ _ i => l.length - (intOf i).toNat)
  case atStart => exact ⟨0, _, _, _, _, rfl, rfl, rfl, rfl, rfl, Nat.zero_le _, Lib.hid (ext_start l wn)⟩
  case round =>
    obtain ⟨k, a, e, t, b, rfl, rfl, rfl, rfl, rfl, hk, HE⟩ := hrel
    by_cases hlt : k < l.length
    · have d1 : decide (k < l.length) = true := decide_eq_true hlt
      obtain ⟨ad, rfl, h1⟩ := Kd.at_int (Kd.C_below HR.out HB3.out) (k : Int) (by omega) (by omega)
      rw [Int.toNat_natCast] at h1
      have hux : u64 (l.getD k 0) := getD_u64 HU.out k
      rw [show rd l (k : Int) = l.getD k 0 from rfl] at h1
      have HPB := Lib.hid (fun j => px_bits (x := j) hux)
      generalize l.getD k 0 = x at *
      have b0 : (0 : Int) ≤ (k : Int) := by omega
      have b1 : (k : Int) < (l.length : Int) := by omega
      have hk64 : k < 64 := by omega
      clear hux
      go_wp2_with fail
      go_loop [4, 5, 6, 7, 9] (fun p4 p5 p6 p7 i => ∃ (j : Nat) (a e t b : Int), i = .int .i64 j ∧ p4 = .int .i64 a ∧ p5 = .int .i64 e ∧ p6 = .int .i64 t ∧ p7 = .int .i64 b ∧ j ≤ wn ∧ Hid (Ext (SN l wn k j) a e t b)) (fun _ _ _ _ i => wn - (intOf i).toNat)
      case atStart => exact ⟨0, _, _, _, _, rfl, rfl, rfl, rfl, rfl, Nat.zero_le _, HE⟩
      case round =>
        clear HE
        obtain ⟨j, a, e, t, b, rfl, rfl, rfl, rfl, rfl, hj, HE⟩ := hrel
        by_cases hjl : j < wn
        · have d2 : decide (j < wn) = true := decide_eq_true hjl
          have b2 : (0 : Int) ≤ (j : Int) := by omega
          have hpb := HPB.out j
          by_cases hp : PX l k j = true
          · rw [if_pos hp] at hpb
            have HS := Lib.hid (ext_on HE.out hjl hwn.2 hk64 hp)
            clear hp
            go_wp2_with fail
            exact ⟨⟨j + 1, _, _, _, _, by go_num, rfl, rfl, rfl, rfl, by omega, HS⟩, by simp [intOf]; omega⟩
          · rw [if_neg hp] at hpb
            have HS := Lib.hid (ext_off HE.out (Bool.eq_false_iff.2 hp))
            clear hp
            go_wp2_with fail
            exact ⟨⟨j + 1, _, _, _, _, by go_num, rfl, rfl, rfl, rfl, by omega, HS⟩, by simp [intOf]; omega⟩
        · have hjw : j = wn := by omega
          have d2 : decide (j < wn) = false := decide_eq_false hjl
          have HS : Hid (Ext (SN l wn (k + 1) 0) a e t b) := Lib.hid (ext_row (by rw [← hjw]; rw [hjw]; have := HE.out; rw [hjw] at this; exact this))
          clear hjw
          go_wp2_with fail
          exact ⟨⟨k + 1, _, _, _, _, by go_num, rfl, rfl, rfl, rfl, by omega, HS⟩, by simp [intOf]; omega⟩
    · have d1 : decide (k < l.length) = false := decide_eq_false hlt
      have hkl : k = l.length := by omega
      rw [hkl] at HE
      clear hkl
      by_cases h0 : usedOf ⟨L, T, wn, l.length, l⟩ = 0
      · have HZ : Hid (trimB ⟨L, T, wn, l.length, l⟩ = Bm.zero) := Lib.hid (by unfold trimB; rw [if_pos h0])
        have he : e = -1 := ext_zero (b := ⟨L, T, wn, l.length, l⟩) HE.out (by have := h0; unfold usedOf at this; rw [HRG.out, if_pos rfl] at this; exact this)
        subst he
        clear h0 HE hk hlt
        have r0 := ZB3.out.cell 0
        have r1 := ZB3.out.cell 1
        have r2 := ZB3.out.cell 2
        have r3 := ZB3.out.cell 3
        have r4 := ZB3.out.cell 4
        simp only [List.getElem?_toArray, List.getElem?_cons_zero, List.getElem?_cons_succ] at r0 r1 r2 r3 r4
        have z0 := ZB3.out.frozen 0
        have z1 := ZB3.out.frozen 1
        have z2 := ZB3.out.frozen 2
        have z3 := ZB3.out.frozen 3
        have z4 := ZB3.out.frozen 4
        go_wp2_with fail
        refine bodyPost_ret (res_c (g := gr) (cs := #[.int .i64 0, .int .i64 0, .int .i64 0, .int .i64 0, .slice none 0 0]) rfl _ _ _ _ rfl (((((ZB3.out.put 0 _ rfl).put 1 _ rfl).put 2 _ rfl).put 3 _ rfl).put 4 _ rfl) rfl hu36 (by kernel_rfl)) rfl ?_
        rw [HZ.out]
        exact ⟨_, rfl, Kd.R_nil _ _ _ _ _, bset (bset (bset (bset (bset HB3.out GE4.out 0 _) GE4.out 1 _) GE4.out 2 _) GE4.out 3 _) GE4.out 4 _⟩
      · obtain ⟨tr⟩ := tr_of (b := ⟨L, T, wn, l.length, l⟩) HU.out h0
        obtain ⟨q1, q2, q3, q4⟩ := ext_end tr rfl HE.out
        have HTQ := Lib.hid (tr_eq h0 tr)
        have HCL := Lib.hid (cut_len tr)
        have hzn := tr.zn
        have hnW := tr.nW
        have hfe := tr.fe
        have hel := tr.el
        have HCA : Hid (∀ j, j < tr.e + 1 - tr.f → (cutRows l).getD j 0 = l.getD (tr.f + j) 0 / 2 ^ tr.z) := Lib.hid (fun j hj => by
          have h1 := tr.el
          have h2 := tr.fe
          have hl : (cutRows l).length = _ := cut_len tr
          have hx : tr.f + j < l.length := by dsimp only at h1; omega
          rw [List.getD_eq_getElem?_getD, List.getElem?_eq_getElem (by omega), List.getD_eq_getElem?_getD, List.getElem?_eq_getElem hx]
          simp [cutRows, tr.ez, tr.ef])
        dsimp only at hnW hel HTQ HCL
        generalize tr.z = z at *
        generalize tr.f = fr at *
        generalize tr.e = er at *
        generalize tr.n = nn at *
        subst q1 q2 q3 q4
        clear tr h0 HE hk hlt
        have d2 : decide ((nn : Int) - 1 < 0) = false := decide_eq_false (by omega)
        obtain ⟨ad, rfl, _⟩ := Kd.at_int HR.out (0 : Int) (by omega) (by omega)
        have k0 := BB3.out.cell 0
        have k1 := BB3.out.cell 1
        simp only [List.getElem?_toArray, List.getElem?_cons_zero, List.getElem?_cons_succ] at k0 k1
        go_upto_region 17 with fail
        obtain ⟨oL, hoL⟩ : ∃ s, L + (z : Int) = s := ⟨_, rfl⟩
        obtain ⟨oT, hoT⟩ : ∃ s, T + (fr : Int) = s := ⟨_, rfl⟩
        obtain ⟨oW, hoW⟩ : ∃ s, (nn : Int) - 1 - (z : Int) + 1 = s := ⟨_, rfl⟩
        obtain ⟨oH, hoH⟩ : ∃ s, (er : Int) - (fr : Int) + 1 = s := ⟨_, rfl⟩
        rw [hoL, hoT, hoW, hoH]
        have HTR : Hid (trimB ⟨L, T, wn, l.length, l⟩ = ⟨oL, oT, oW, oH, cutRows l⟩) := Lib.hid (by rw [HTQ.out, hoL, hoT, ← hoW, ← hoH]; congr 1; omega)
        obtain ⟨w4, gc, hw, hg, B5', HB5, _⟩ := new_box w3 #[.int .i64 oL, .int .i64 oT, .int .i64 oW, .int .i64 oH, .slice none 0 0] 36
        rw [hw, hg]
        have HB4 := Lib.hid (bthen' HB3.out HB5.out)
        have BB4 := Lib.hid (BB3.out.below HB5.out)
        have ZB4 := Lib.hid (ZB3.out.below HB5.out)
        have N45 := Aside0.mk (show gr ≠ gc by have := ZB3.out.lt; omega)
        have N35 := Aside0.mk (show gb ≠ gc by have := BB3.out.lt; omega)
        have GE5 := Aside0.mk (show w.heap.size ≤ gc by have := HB3.out.size; omega)
        clear hoL hoT hoW hoH HTQ hw hg k0 k1 k2 k3 k4 d2 BB3 ZB3 HB5 d1
        go_wp2_with fail
        go_loopw [11] (fun i wr => ∃ (q : Nat) (v : Value), i = .int .i64 q ∧ fr ≤ q ∧ q ≤ er + 1 ∧ Hid (Below w.heap.size w wr) ∧ Hid (Blk wr gr #[.int .i64 0, .int .i64 0, .int .i64 0, .int .i64 0, .slice none 0 0] 36) ∧ Hid (Blk wr gb #[.int .i64 L, .int .i64 T, .int .i64 (wn : Int), .int .i64 (l.length : Int), .slice (some ad) l.length c] 36) ∧ Hid (Blk wr gc #[.int .i64 oL, .int .i64 oT, .int .i64 oW, .int .i64 oH, v] 36) ∧ Hid (Kd.R (Kd.int .u64) 59 wr w.heap.size (fun _ => True) v ((cutRows l).take (q - fr)))) (fun i _ => er + 1 - (intOf i).toNat)
        case atStart => exact ⟨fr, _, rfl, Nat.le_refl _, by omega, HB4, ZB4, BB4, B5', Lib.hid (by rw [Nat.sub_self]; exact Kd.R_nil _ _ _ _ _)⟩
        case round =>
        clear HB4 ZB4 BB4 B5'
        obtain ⟨q, v, rfl, hq1, hq2, HBr, ZBr, BBr, B5r, RVr⟩ := hrel
        by_cases hq : q ≤ er
        · have d1 : decide (q ≤ er) = true := decide_eq_true hq
          obtain ⟨ad', hA, h1⟩ := Kd.at_int HR.out (q : Int) (by omega) (by omega)
          cases hA
          rw [Int.toNat_natCast] at h1
          have HTK : Hid ((cutRows l).take (q + 1 - fr) = (cutRows l).take (q - fr) ++ [rd l (q : Int) / 2 ^ z]) := Lib.hid (by
            have hcl := HCL.out
            have h2 := HCA.out (q - fr) (by omega)
            rw [show fr + (q - fr) = q by omega] at h2
            rw [show q + 1 - fr = q - fr + 1 by omega, List.take_succ_eq_append_getElem (by omega)]
            congr 2
            rw [List.getD_eq_getElem?_getD, List.getElem?_eq_getElem (show q - fr < (cutRows l).length by omega)] at h2
            exact h2)
          have RSL := Aside0.mk (show ((cutRows l).take (q - fr)).length ≤ 100 by rw [List.length_take, HCL.out]; omega)
          generalize rd l (q : Int) = x at *
          generalize (cutRows l).take (q - fr) = rs at *
          obtain ⟨xs, hxs⟩ : ∃ s, x / 2 ^ z = s := ⟨_, rfl⟩
          rw [hxs] at HTK
          obtain ⟨Av, cv, rfl⟩ := Kd.R_slice RVr.out
          have XC := Aside0.mk h1
          have Y0 := Aside0.mk (show (0 : Int) ≤ (q : Int) by omega)
          have Y1 := Aside0.mk (show (q : Int) < (l.length : Int) by omega)
          have YW := Aside0.mk (show (0 : Int) ≤ (z : Int) by omega)
          have YS := Aside0.mk (show x / 2 ^ min z 64 = xs by rw [Nat.min_eq_left (by omega)]; exact hxs)
          have N4 := Aside0.mk (Kd.R_ne RVr.out ZBr.out (by decide))
          have N3 := Aside0.mk (Kd.R_ne RVr.out BBr.out (by decide))
          have N5 := Aside0.mk (Kd.R_ne RVr.out B5r.out (by decide))
          have HQ := Lib.hid (show fr ≤ q ∧ q ≤ er ∧ er < l.length ∧ l.length ≤ 64 by omega)
          clear h1 hxs hq hq1 hq2 hwn hln hLL hTT hzn hnW hfe hel
          go_upto_region 20 with fail
          clear d1
          refine start_ (n := 13) (S := fun w' => True) (ds := []) #[false, false, false, false, false, false, false, false, false, false, false, false, false] (by kernel_rfl) rfl rfl trivial (fun hHeld => ?_)
          refine with_tabW rfTrm.tab20 rfTrm.bits20 (fun HT_ HW_ => ?_)
          have HB : Aside0 (Below w.heap.size w wr.drew) := ⟨bdrew HBr.out⟩
          have ZB : Aside0 (Blk wr.drew gr #[.int .i64 0, .int .i64 0, .int .i64 0, .int .i64 0, .slice none 0 0] 36) := ⟨ZBr.out.drew⟩
          have BB : Aside0 (Blk wr.drew gb #[.int .i64 L, .int .i64 T, .int .i64 (wn : Int), .int .i64 (l.length : Int), .slice (some ad) l.length c] 36) := ⟨BBr.out.drew⟩
          have B5 : Aside0 (Blk wr.drew gc #[.int .i64 oL, .int .i64 oT, .int .i64 oW, .int .i64 oH, .slice Av rs.length cv] 36) := ⟨B5r.out.drew⟩
          have RV : Aside0 (Kd.R (Kd.int .u64) 59 wr.drew w.heap.size (fun _ => True) (.slice Av rs.length cv) rs) := ⟨Kd.R_below RVr.out (below_drew (Below.refl _ _))⟩
          generalize hwd : wr.drew = w1' at *
          clear hwd
          refine inv_at [0, 1, 2, 3, 4, 5, 6, 7, 8, 9, 10, 11, 12] (fun a0_ b a w' => ∃ (ge : Nat) (v1 : Value) (m9_ : Value), a = putSel a0_ b [(0, 76, .pointer (some ⟨gc, 4, none⟩)), (1, 77, .slice Av rs.length cv), (2, 78, .pointer (some ⟨gb, 4, none⟩)), (3, 79, .slice (some ad) l.length c), (4, 80, .int .i64 (q : Int)), (5, 81, .pointer (some (ad.add q))), (6, 82, .int .u64 x), (7, 83, .int .i64 (z : Int)), (8, 84, .int .u64 xs), (9, 85, m9_), (10, 86, v1), (11, 87, .pointer (some ⟨gc, 4, none⟩))] ∧ (Below w.heap.size w w') ∧ (Blk w' gr #[.int .i64 0, .int .i64 0, .int .i64 0, .int .i64 0, .slice none 0 0] 36) ∧ (Blk w' gb #[.int .i64 L, .int .i64 T, .int .i64 (wn : Int), .int .i64 (l.length : Int), .slice (some ad) l.length c] 36) ∧ (b 12 = false → Blk w' gc #[.int .i64 oL, .int .i64 oT, .int .i64 oW, .int .i64 oH, .slice Av rs.length cv] 36) ∧ (b 10 = false → Kd.R (Kd.int .u64) 59 w' w.heap.size (fun _ => True) (.slice Av rs.length cv) rs) ∧ (b 9 = true → b 10 = false → Blk w' ge #[.int .u64 xs] 59) ∧ (b 10 = true → Kd.R (Kd.int .u64) 59 w' w.heap.size (fun _ => True) v1 (rs ++ [xs])) ∧ (b 12 = true → Blk w' gc #[.int .i64 oL, .int .i64 oT, .int .i64 oW, .int .i64 oH, v1] 36) ∧ (b 9 = true → (m9_ : Value) = .slice (some ⟨ge, 0, none⟩) 1 1)) HT_.out HW_.out (by kernel_rfl) (by kernel_rfl) ?_ ?_ ?_
          · exact ⟨0, undef, .bool false, by simp only [putSel, Bool.false_eq_true, if_false], HB.out, ZB.out, BB.out, fun _ => B5.out, fun _ => RV.out, fun h_ => absurd h_ (by decide), fun h_ => absurd h_ (by decide), fun h_ => absurd h_ (by decide), fun h_ => absurd h_ (by decide)⟩
          · skip
            clear B5 BB HB RV ZB
            refine steps_cons ?_ ?_
            · rintro b a w' ⟨ge, v1, m9_, ha, Q_HB, Q_ZB, Q_BB, Q_B5, Q_RV, Q_EB, Q_R1, Q_B6, Q_X9_⟩ hb_ hon hoff
              refine ⟨_, rfl, fun K hK => ?_⟩
              have e10 : a.tmps[10]? = some (.pointer (some ⟨gc, 0, none⟩)) := by rw [ha]; exact (putSel_off rfl).trans rfl
              replace ha := Aside0.mk ha
              have HB := Aside0.mk Q_HB
              have ZB := Aside0.mk Q_ZB
              have BB := Aside0.mk Q_BB
              have B5 := Aside0.mk (Q_B5 (hoff 12 (by kernel_rfl)))
              have RV := Aside0.mk (Q_RV (hoff 10 (by kernel_rfl)))
              refine value_ (w1 := w') (v := .pointer (some ⟨gc, 4, none⟩)) (by rfl) rfl ?_ ?_
              · go_simp
                (try simp only [i64_w])
                try rfl
              refine hK.out _ _ ⟨ge, v1, m9_, (by rw [ha.out]; exact putSel_upk 0 hb_ rfl rfl rfl), Q_HB, Q_ZB, Q_BB, Q_B5, Q_RV, Q_EB, fun h0_ => absurd ((hoff 10 (by kernel_rfl)).symm.trans h0_) (by decide), fun h0_ => absurd ((hoff 12 (by kernel_rfl)).symm.trans h0_) (by decide), Q_X9_⟩
            refine steps_cons ?_ ?_
            · rintro b a w' ⟨ge, v1, m9_, ha, Q_HB, Q_ZB, Q_BB, Q_B5, Q_RV, Q_EB, Q_R1, Q_B6, Q_X9_⟩ hb_ hon hoff
              refine ⟨_, rfl, fun K hK => ?_⟩
              have e76 : a.tmps[76]? = some (.pointer (some ⟨gc, 4, none⟩)) := by rw [ha]; exact putSel_on (e := (0, 76, .pointer (some ⟨gc, 4, none⟩))) 0 rfl rfl (hon 0 (by kernel_rfl)) rfl
              replace ha := Aside0.mk ha
              have HB := Aside0.mk Q_HB
              have ZB := Aside0.mk Q_ZB
              have BB := Aside0.mk Q_BB
              have B5 := Aside0.mk (Q_B5 (hoff 12 (by kernel_rfl)))
              have RV := Aside0.mk (Q_RV (hoff 10 (by kernel_rfl)))
              have q4 : w'.cell? ⟨gc, 4, none⟩ = some (.slice Av rs.length cv) := B5.out.cell 4
              refine value_ (w1 := w') (v := .slice Av rs.length cv) (by rfl) rfl ?_ ?_
              · go_simp
                (try simp only [i64_w])
                try rfl
              refine hK.out _ _ ⟨ge, v1, m9_, (by rw [ha.out]; exact putSel_upk 1 hb_ rfl rfl rfl), Q_HB, Q_ZB, Q_BB, Q_B5, Q_RV, Q_EB, fun h0_ => absurd ((hoff 10 (by kernel_rfl)).symm.trans h0_) (by decide), fun h0_ => absurd ((hoff 12 (by kernel_rfl)).symm.trans h0_) (by decide), Q_X9_⟩
            refine steps_cons ?_ ?_
            · rintro b a w' ⟨ge, v1, m9_, ha, Q_HB, Q_ZB, Q_BB, Q_B5, Q_RV, Q_EB, Q_R1, Q_B6, Q_X9_⟩ hb_ hon hoff
              refine ⟨_, rfl, fun K hK => ?_⟩
              have e1 : a.tmps[1]? = some (.pointer (some ⟨gb, 0, none⟩)) := by rw [ha]; exact (putSel_off rfl).trans rfl
              replace ha := Aside0.mk ha
              have HB := Aside0.mk Q_HB
              have ZB := Aside0.mk Q_ZB
              have BB := Aside0.mk Q_BB
              have B5 := Aside0.mk (Q_B5 (hoff 12 (by kernel_rfl)))
              have RV := Aside0.mk (Q_RV (hoff 10 (by kernel_rfl)))
              refine value_ (w1 := w') (v := .pointer (some ⟨gb, 4, none⟩)) (by rfl) rfl ?_ ?_
              · go_simp
                (try simp only [i64_w])
                try rfl
              refine hK.out _ _ ⟨ge, v1, m9_, (by rw [ha.out]; exact putSel_upk 2 hb_ rfl rfl rfl), Q_HB, Q_ZB, Q_BB, Q_B5, Q_RV, fun h0_ _ => absurd ((hoff 9 (by kernel_rfl)).symm.trans h0_) (by decide), fun h0_ => absurd ((hoff 10 (by kernel_rfl)).symm.trans h0_) (by decide), fun h0_ => absurd ((hoff 12 (by kernel_rfl)).symm.trans h0_) (by decide), fun h0_ => absurd ((hoff 9 (by kernel_rfl)).symm.trans h0_) (by decide)⟩
            refine steps_cons ?_ ?_
            · rintro b a w' ⟨ge, v1, m9_, ha, Q_HB, Q_ZB, Q_BB, Q_B5, Q_RV, Q_EB, Q_R1, Q_B6, Q_X9_⟩ hb_ hon hoff
              refine ⟨_, rfl, fun K hK => ?_⟩
              have e78 : a.tmps[78]? = some (.pointer (some ⟨gb, 4, none⟩)) := by rw [ha]; exact putSel_on (e := (2, 78, .pointer (some ⟨gb, 4, none⟩))) 2 rfl rfl (hon 2 (by kernel_rfl)) rfl
              replace ha := Aside0.mk ha
              have HB := Aside0.mk Q_HB
              have ZB := Aside0.mk Q_ZB
              have BB := Aside0.mk Q_BB
              have B5 := Aside0.mk (Q_B5 (hoff 12 (by kernel_rfl)))
              have RV := Aside0.mk (Q_RV (hoff 10 (by kernel_rfl)))
              have q4 : w'.cell? ⟨gb, 4, none⟩ = some (.slice (some ad) l.length c) := BB.out.cell 4
              refine value_ (w1 := w') (v := .slice (some ad) l.length c) (by rfl) rfl ?_ ?_
              · go_simp
                (try simp only [i64_w])
                try rfl
              refine hK.out _ _ ⟨ge, v1, m9_, (by rw [ha.out]; exact putSel_upk 3 hb_ rfl rfl rfl), Q_HB, Q_ZB, Q_BB, Q_B5, Q_RV, fun h0_ _ => absurd ((hoff 9 (by kernel_rfl)).symm.trans h0_) (by decide), fun h0_ => absurd ((hoff 10 (by kernel_rfl)).symm.trans h0_) (by decide), fun h0_ => absurd ((hoff 12 (by kernel_rfl)).symm.trans h0_) (by decide), fun h0_ => absurd ((hoff 9 (by kernel_rfl)).symm.trans h0_) (by decide)⟩
            refine steps_cons ?_ ?_
            · rintro b a w' ⟨ge, v1, m9_, ha, Q_HB, Q_ZB, Q_BB, Q_B5, Q_RV, Q_EB, Q_R1, Q_B6, Q_X9_⟩ hb_ hon hoff
              refine ⟨_, rfl, fun K hK => ?_⟩
              have e11 : a.tmps[11]? = some (.int .i64 (q : Int)) := by rw [ha]; exact (putSel_off rfl).trans rfl
              replace ha := Aside0.mk ha
              have HB := Aside0.mk Q_HB
              have ZB := Aside0.mk Q_ZB
              have BB := Aside0.mk Q_BB
              have B5 := Aside0.mk (Q_B5 (hoff 12 (by kernel_rfl)))
              have RV := Aside0.mk (Q_RV (hoff 10 (by kernel_rfl)))
              refine value_ (w1 := w') (v := .int .i64 (q : Int)) (by rfl) rfl ?_ ?_
              · go_simp
                (try simp only [i64_w])
                try rfl
              refine hK.out _ _ ⟨ge, v1, m9_, (by rw [ha.out]; exact putSel_upk 4 hb_ rfl rfl rfl), Q_HB, Q_ZB, Q_BB, Q_B5, Q_RV, fun h0_ _ => absurd ((hoff 9 (by kernel_rfl)).symm.trans h0_) (by decide), fun h0_ => absurd ((hoff 10 (by kernel_rfl)).symm.trans h0_) (by decide), fun h0_ => absurd ((hoff 12 (by kernel_rfl)).symm.trans h0_) (by decide), fun h0_ => absurd ((hoff 9 (by kernel_rfl)).symm.trans h0_) (by decide)⟩
            refine steps_cons ?_ ?_
            · rintro b a w' ⟨ge, v1, m9_, ha, Q_HB, Q_ZB, Q_BB, Q_B5, Q_RV, Q_EB, Q_R1, Q_B6, Q_X9_⟩ hb_ hon hoff
              refine ⟨_, rfl, fun K hK => ?_⟩
              have e79 : a.tmps[79]? = some (.slice (some ad) l.length c) := by rw [ha]; exact putSel_on (e := (3, 79, .slice (some ad) l.length c)) 3 rfl rfl (hon 3 (by kernel_rfl)) rfl
              have e80 : a.tmps[80]? = some (.int .i64 (q : Int)) := by rw [ha]; exact putSel_on (e := (4, 80, .int .i64 (q : Int))) 4 rfl rfl (hon 4 (by kernel_rfl)) rfl
              replace ha := Aside0.mk ha
              have HB := Aside0.mk Q_HB
              have ZB := Aside0.mk Q_ZB
              have BB := Aside0.mk Q_BB
              have B5 := Aside0.mk (Q_B5 (hoff 12 (by kernel_rfl)))
              have RV := Aside0.mk (Q_RV (hoff 10 (by kernel_rfl)))
              have y0 := Y0.out
              have y1 := Y1.out
              refine value_ (w1 := w') (v := .pointer (some (ad.add q))) (by rfl) rfl ?_ ?_
              · go_simp
                (try simp only [i64_w])
                try rfl
              refine hK.out _ _ ⟨ge, v1, m9_, (by rw [ha.out]; exact putSel_upk 5 hb_ rfl rfl rfl), Q_HB, Q_ZB, Q_BB, Q_B5, Q_RV, fun h0_ _ => absurd ((hoff 9 (by kernel_rfl)).symm.trans h0_) (by decide), fun h0_ => absurd ((hoff 10 (by kernel_rfl)).symm.trans h0_) (by decide), fun h0_ => absurd ((hoff 12 (by kernel_rfl)).symm.trans h0_) (by decide), fun h0_ => absurd ((hoff 9 (by kernel_rfl)).symm.trans h0_) (by decide)⟩
            refine steps_cons ?_ ?_
            · rintro b a w' ⟨ge, v1, m9_, ha, Q_HB, Q_ZB, Q_BB, Q_B5, Q_RV, Q_EB, Q_R1, Q_B6, Q_X9_⟩ hb_ hon hoff
              refine ⟨_, rfl, fun K hK => ?_⟩
              have e81 : a.tmps[81]? = some (.pointer (some (ad.add q))) := by rw [ha]; exact putSel_on (e := (5, 81, .pointer (some (ad.add q)))) 5 rfl rfl (hon 5 (by kernel_rfl)) rfl
              replace ha := Aside0.mk ha
              have HB := Aside0.mk Q_HB
              have ZB := Aside0.mk Q_ZB
              have BB := Aside0.mk Q_BB
              have B5 := Aside0.mk (Q_B5 (hoff 12 (by kernel_rfl)))
              have RV := Aside0.mk (Q_RV (hoff 10 (by kernel_rfl)))
              have hx : w'.cell? (ad.add q) = some (.int .u64 x) := pw_cell_below HB.out XC.out
              refine value_ (w1 := w') (v := .int .u64 x) (by rfl) rfl ?_ ?_
              · go_simp
                (try simp only [i64_w])
                try rfl
              refine hK.out _ _ ⟨ge, v1, m9_, (by rw [ha.out]; exact putSel_upk 6 hb_ rfl rfl rfl), Q_HB, Q_ZB, Q_BB, Q_B5, Q_RV, fun h0_ _ => absurd ((hoff 9 (by kernel_rfl)).symm.trans h0_) (by decide), fun h0_ => absurd ((hoff 10 (by kernel_rfl)).symm.trans h0_) (by decide), fun h0_ => absurd ((hoff 12 (by kernel_rfl)).symm.trans h0_) (by decide), fun h0_ => absurd ((hoff 9 (by kernel_rfl)).symm.trans h0_) (by decide)⟩
            refine steps_cons ?_ ?_
            · rintro b a w' ⟨ge, v1, m9_, ha, Q_HB, Q_ZB, Q_BB, Q_B5, Q_RV, Q_EB, Q_R1, Q_B6, Q_X9_⟩ hb_ hon hoff
              refine ⟨_, rfl, fun K hK => ?_⟩
              have e4 : a.tmps[4]? = some (.int .i64 (z : Int)) := by rw [ha]; exact (putSel_off rfl).trans rfl
              replace ha := Aside0.mk ha
              have HB := Aside0.mk Q_HB
              have ZB := Aside0.mk Q_ZB
              have BB := Aside0.mk Q_BB
              have B5 := Aside0.mk (Q_B5 (hoff 12 (by kernel_rfl)))
              have RV := Aside0.mk (Q_RV (hoff 10 (by kernel_rfl)))
              refine value_ (w1 := w') (v := .int .i64 (z : Int)) (by rfl) rfl ?_ ?_
              · go_simp
                (try simp only [i64_w])
                try rfl
              refine hK.out _ _ ⟨ge, v1, m9_, (by rw [ha.out]; exact putSel_upk 7 hb_ rfl rfl rfl), Q_HB, Q_ZB, Q_BB, Q_B5, Q_RV, fun h0_ _ => absurd ((hoff 9 (by kernel_rfl)).symm.trans h0_) (by decide), fun h0_ => absurd ((hoff 10 (by kernel_rfl)).symm.trans h0_) (by decide), fun h0_ => absurd ((hoff 12 (by kernel_rfl)).symm.trans h0_) (by decide), fun h0_ => absurd ((hoff 9 (by kernel_rfl)).symm.trans h0_) (by decide)⟩
            refine steps_cons ?_ ?_
            · rintro b a w' ⟨ge, v1, m9_, ha, Q_HB, Q_ZB, Q_BB, Q_B5, Q_RV, Q_EB, Q_R1, Q_B6, Q_X9_⟩ hb_ hon hoff
              refine ⟨_, rfl, fun K hK => ?_⟩
              have e82 : a.tmps[82]? = some (.int .u64 x) := by rw [ha]; exact putSel_on (e := (6, 82, .int .u64 x)) 6 rfl rfl (hon 6 (by kernel_rfl)) rfl
              have e83 : a.tmps[83]? = some (.int .i64 (z : Int)) := by rw [ha]; exact putSel_on (e := (7, 83, .int .i64 (z : Int))) 7 rfl rfl (hon 7 (by kernel_rfl)) rfl
              replace ha := Aside0.mk ha
              have HB := Aside0.mk Q_HB
              have ZB := Aside0.mk Q_ZB
              have BB := Aside0.mk Q_BB
              have B5 := Aside0.mk (Q_B5 (hoff 12 (by kernel_rfl)))
              have RV := Aside0.mk (Q_RV (hoff 10 (by kernel_rfl)))
              have y2 := YW.out
              have y3 := YS.out
              refine value_ (w1 := w') (v := .int .u64 xs) (by rfl) rfl ?_ ?_
              · go_simp
                (try simp only [i64_w])
                try rfl
              refine hK.out _ _ ⟨ge, v1, m9_, (by rw [ha.out]; exact putSel_upk 8 hb_ rfl rfl rfl), Q_HB, Q_ZB, Q_BB, Q_B5, Q_RV, fun h0_ _ => absurd ((hoff 9 (by kernel_rfl)).symm.trans h0_) (by decide), fun h0_ => absurd ((hoff 10 (by kernel_rfl)).symm.trans h0_) (by decide), fun h0_ => absurd ((hoff 12 (by kernel_rfl)).symm.trans h0_) (by decide), fun h0_ => absurd ((hoff 9 (by kernel_rfl)).symm.trans h0_) (by decide)⟩
            refine steps_cons ?_ ?_
            · rintro b a w' ⟨ge, v1, m9_, ha, Q_HB, Q_ZB, Q_BB, Q_B5, Q_RV, Q_EB, Q_R1, Q_B6, Q_X9_⟩ hb_ hon hoff
              refine ⟨_, rfl, fun K hK => ?_⟩
              have e84 : a.tmps[84]? = some (.int .u64 xs) := by rw [ha]; exact putSel_on (e := (8, 84, .int .u64 xs)) 8 rfl rfl (hon 8 (by kernel_rfl)) rfl
              replace ha := Aside0.mk ha
              have HB := Aside0.mk Q_HB
              have ZB := Aside0.mk Q_ZB
              have BB := Aside0.mk Q_BB
              have B5 := Aside0.mk (Q_B5 (hoff 12 (by kernel_rfl)))
              have RV := Aside0.mk (Q_RV (hoff 10 (by kernel_rfl)))
              refine value_ (w1 := w'.alloc (.cells #[.int .u64 xs] 59)) (v := .slice (some ⟨w'.heap.size, 0, none⟩) 1 1) (by rfl) rfl ?_ ?_
              · go_simp
              refine hK.out _ _ ⟨w'.heap.size, v1, (.slice (some ⟨w'.heap.size, 0, none⟩) 1 1), (by rw [ha.out]; exact putSel_upk 9 hb_ rfl rfl rfl), bthen' HB.out (below_alloc (Below.refl _ w') _), ZB.out.alloc _, BB.out.alloc _, fun _ => B5.out.alloc _, fun _ => Kd.R_below RV.out (below_alloc (Below.refl _ w') _), fun _ _ => Blk.new w' _ _ rfl, fun h0_ => absurd ((hoff 10 (by kernel_rfl)).symm.trans h0_) (by decide), fun h0_ => absurd ((hoff 12 (by kernel_rfl)).symm.trans h0_) (by decide), fun _ => rfl⟩
            refine steps_cons ?_ ?_
            · rintro b a w' ⟨ge, v1, m9_, ha, Q_HB, Q_ZB, Q_BB, Q_B5, Q_RV, Q_EB, Q_R1, Q_B6, Q_X9_⟩ hb_ hon hoff
              refine ⟨_, rfl, fun K hK => ?_⟩
              have e77 : a.tmps[77]? = some (.slice Av rs.length cv) := by rw [ha]; exact putSel_on (e := (1, 77, .slice Av rs.length cv)) 1 rfl rfl (hon 1 (by kernel_rfl)) rfl
              have e85 : a.tmps[85]? = some (m9_) := by rw [ha]; exact putSel_on (e := (9, 85, m9_)) 9 rfl rfl (hon 9 (by kernel_rfl)) rfl
              rw [Q_X9_ (hon 9 (by kernel_rfl))] at e85
              replace ha := Aside0.mk ha
              have HB := Aside0.mk Q_HB
              have ZB := Aside0.mk Q_ZB
              have BB := Aside0.mk Q_BB
              have B5 := Aside0.mk (Q_B5 (hoff 12 (by kernel_rfl)))
              have RV := Aside0.mk (Q_RV hb_)
              have EB := Aside0.mk (Q_EB (hon 9 (by kernel_rfl)) hb_)
              obtain ⟨vv, w2, hr, o1, o2, o3⟩ := append_kd (d := Kd.int .u64) 34 59 (.int .u64 0) 8 Tryd.underlying34 info59 rfl (by decide) (by omega) RV.out HB.out HB.out.size ge xs [.int .u64 xs] EB.out rfl (by have := RSL.out; omega)
              refine value_ (w1 := w2) (v := vv) (by rfl) rfl ?_ ?_
              · exact run_append_opU (by rfl) (by assumption) (by assumption) hr
              refine hK.out _ _ ⟨ge, vv, m9_, (by rw [ha.out]; exact putSel_upk 10 hb_ rfl rfl rfl), o2, (o3.block gr ZB.out.lt N4.out).trans ZB.out, (o3.block gb BB.out.lt N3.out).trans BB.out, fun _ => (o3.block gc B5.out.lt N5.out).trans B5.out, fun h0_ => absurd ((up_self b 10).symm.trans h0_) (by decide), fun _ h1_ => absurd ((up_self b 10).symm.trans h1_) (by decide), fun _ => o1, fun h0_ => absurd ((hoff 12 (by kernel_rfl)).symm.trans h0_) (by decide), Q_X9_⟩
            refine steps_cons ?_ ?_
            · rintro b a w' ⟨ge, v1, m9_, ha, Q_HB, Q_ZB, Q_BB, Q_B5, Q_RV, Q_EB, Q_R1, Q_B6, Q_X9_⟩ hb_ hon hoff
              refine ⟨_, rfl, fun K hK => ?_⟩
              have e10 : a.tmps[10]? = some (.pointer (some ⟨gc, 0, none⟩)) := by rw [ha]; exact (putSel_off rfl).trans rfl
              replace ha := Aside0.mk ha
              have HB := Aside0.mk Q_HB
              have ZB := Aside0.mk Q_ZB
              have BB := Aside0.mk Q_BB
              have B5 := Aside0.mk (Q_B5 (hoff 12 (by kernel_rfl)))
              have R1 := Aside0.mk (Q_R1 (hon 10 (by kernel_rfl)))
              refine value_ (w1 := w') (v := .pointer (some ⟨gc, 4, none⟩)) (by rfl) rfl ?_ ?_
              · go_simp
                (try simp only [i64_w])
                try rfl
              refine hK.out _ _ ⟨ge, v1, m9_, (by rw [ha.out]; exact putSel_upk 11 hb_ rfl rfl rfl), Q_HB, Q_ZB, Q_BB, Q_B5, fun h0_ => absurd ((hon 10 (by kernel_rfl)).symm.trans h0_) (by decide), fun _ h1_ => absurd ((hon 10 (by kernel_rfl)).symm.trans h1_) (by decide), Q_R1, fun h0_ => absurd ((hoff 12 (by kernel_rfl)).symm.trans h0_) (by decide), Q_X9_⟩
            refine steps_cons ?_ ?_
            · rintro b a w' ⟨ge, v1, m9_, ha, Q_HB, Q_ZB, Q_BB, Q_B5, Q_RV, Q_EB, Q_R1, Q_B6, Q_X9_⟩ hb_ hon hoff
              refine ⟨_, rfl, fun K hK => ?_⟩
              have e87 : a.tmps[87]? = some (.pointer (some ⟨gc, 4, none⟩)) := by rw [ha]; exact putSel_on (e := (11, 87, .pointer (some ⟨gc, 4, none⟩))) 11 rfl rfl (hon 11 (by kernel_rfl)) rfl
              have e86 : a.tmps[86]? = some (v1) := by rw [ha]; exact putSel_on (e := (10, 86, v1)) 10 rfl rfl (hon 10 (by kernel_rfl)) rfl
              replace ha := Aside0.mk ha
              have HB := Aside0.mk Q_HB
              have ZB := Aside0.mk Q_ZB
              have BB := Aside0.mk Q_BB
              have B5 := Aside0.mk (Q_B5 hb_)
              have R1 := Aside0.mk (Q_R1 (hon 10 (by kernel_rfl)))
              have q4 : w'.cell? ⟨gc, 4, none⟩ = some (.slice Av rs.length cv) := B5.out.cell 4
              have z4 := B5.out.frozen 4
              obtain ⟨A2, c2, hv2⟩ := Kd.R_slice R1.out
              have ho : v1.oneCell' = true := by rw [hv2]; rfl
              refine skip_ (w1 := w'.setCell ⟨gc, 4, none⟩ v1) (by rfl) rfl ?_ ?_
              · go_simp
              refine hK.out _ _ ⟨ge, v1, m9_, (by rw [ha.out]; exact putSel_none (v := undef) rfl), bset HB.out GE5.out 4 _, ZB.out.far N45.out 4 _, BB.out.far N35.out 4 _, fun h0_ => absurd ((up_self b 12).symm.trans h0_) (by decide), fun h0_ => absurd ((hon 10 (by kernel_rfl)).symm.trans h0_) (by decide), fun _ h1_ => absurd ((hon 10 (by kernel_rfl)).symm.trans h1_) (by decide), fun _ => Kd.R_set R1.out B5.out (by decide) 4 _, fun _ => B5.out.put 4 _ rfl, Q_X9_⟩
            exact steps_nil
          · rintro b a w' hall ⟨ge, v1, m9_, ha, Q_HB, Q_ZB, Q_BB, Q_B5, Q_RV, Q_EB, Q_R1, Q_B6, Q_X9_⟩
            clear B5 BB HB RV ZB
            have hb0_ := hall 0 (by kernel_rfl)
            have hb1_ := hall 1 (by kernel_rfl)
            have hb2_ := hall 2 (by kernel_rfl)
            have hb3_ := hall 3 (by kernel_rfl)
            have hb4_ := hall 4 (by kernel_rfl)
            have hb5_ := hall 5 (by kernel_rfl)
            have hb6_ := hall 6 (by kernel_rfl)
            have hb7_ := hall 7 (by kernel_rfl)
            have hb8_ := hall 8 (by kernel_rfl)
            have hb9_ := hall 9 (by kernel_rfl)
            have hb10_ := hall 10 (by kernel_rfl)
            have hb11_ := hall 11 (by kernel_rfl)
            have hb12_ := hall 12 (by kernel_rfl)
            subst ha
            obtain rfl := Q_X9_ hb9_
            simp only [putSel, hb0_, hb1_, hb2_, hb3_, hb4_, hb5_, hb6_, hb7_, hb8_, hb9_, hb10_, hb11_, hb12_, if_true, Act.put, List.setIfInBounds_toArray, List.set_cons_zero, List.set_cons_succ]
            have HB := Aside0.mk Q_HB
            clear Q_HB
            have ZB := Aside0.mk Q_ZB
            clear Q_ZB
            have BB := Aside0.mk Q_BB
            clear Q_BB
            clear Q_B5
            clear Q_RV
            clear Q_EB
            have R1 := Aside0.mk (Q_R1 hb10_)
            clear Q_R1
            have B6 := Aside0.mk (Q_B6 hb12_)
            clear Q_B6
            clear hall hb0_ hb1_ hb2_ hb3_ hb4_ hb5_ hb6_ hb7_ hb8_ hb9_ hb10_ hb11_ hb12_
            have HTK' := HTK.out
            have HBn := Lib.hid HB.out
            have ZBn := Lib.hid ZB.out
            have BBn := Lib.hid BB.out
            have B6n := Lib.hid B6.out
            have R1n := Lib.hid R1.out
            rw [← HTK'] at R1n
            clear HTK'
            have hq := HQ.out
            go_wp2_with fail
            go_roundw
            case rel => exact ⟨q + 1, v1, by go_num, by omega, by omega, HBn, ZBn, BBn, B6n, R1n⟩
            case measure => simp [intOf]; omega
        · have d1 : decide (q ≤ er) = false := decide_eq_false hq
          have hqe : q = er + 1 := by omega
          have hT0 : (cutRows l).take (q - fr) = cutRows l := List.take_of_length_le (by rw [HCL.out, hqe]; exact Nat.le_refl _)
          rw [hT0] at RVr
          obtain ⟨Av, cv, rfl⟩ := Kd.R_slice RVr.out
          have HRF := RVr
          clear hqe hT0 hq hq1 hq2
          have cq0 := B5r.out.cell 0
          have cq1 := B5r.out.cell 1
          have cq2 := B5r.out.cell 2
          have cq3 := B5r.out.cell 3
          have cq4 := B5r.out.cell 4
          simp only [List.getElem?_toArray, List.getElem?_cons_zero, List.getElem?_cons_succ] at cq0 cq1 cq2 cq3 cq4
          have f0 := ZBr.out.cell 0
          have f1 := ZBr.out.cell 1
          have f2 := ZBr.out.cell 2
          have f3 := ZBr.out.cell 3
          have f4 := ZBr.out.cell 4
          simp only [List.getElem?_toArray, List.getElem?_cons_zero, List.getElem?_cons_succ] at f0 f1 f2 f3 f4
          have y0 := ZBr.out.frozen 0
          have y1 := ZBr.out.frozen 1
          have y2 := ZBr.out.frozen 2
          have y3 := ZBr.out.frozen 3
          have y4 := ZBr.out.frozen 4
          go_wp2_with fail
          have BF := Lib.hid (((((ZBr.out.put 0 (.int .i64 oL) rfl).put 1 (.int .i64 oT) rfl).put 2 (.int .i64 oW) rfl).put 3 (.int .i64 oH) rfl).put 4 (.slice Av (cutRows l).length cv) rfl)
          have HBF := Lib.hid (bset (bset (bset (bset (bset HBr.out GE4.out 0 (.int .i64 oL)) GE4.out 1 (.int .i64 oT)) GE4.out 2 (.int .i64 oW)) GE4.out 3 (.int .i64 oH)) GE4.out 4 (.slice Av (cutRows l).length cv))
          have RF := Lib.hid (R_put5 HRF.out ZBr.out (by decide) (.int .i64 oL) (.int .i64 oT) (.int .i64 oW) (.int .i64 oH) (.slice Av (cutRows l).length cv))
          rw [HTR.out]
          refine bodyPost_ret (res_c (g := gr) rfl _ _ _ _ _ rfl BF.out rfl hu36 (by kernel_rfl)) rfl ⟨_, rfl, RF.out, HBF.out⟩
end Go.Proofs.YtleljodcdbhifaaDoor
/- The reference's winding number: walked. -/
set_option linter.unusedVariables false
set_option linter.unusedSimpArgs false
namespace Go.Proofs.YtleljodcdbhifaaDoor
open Go.RowKit Go.Proofs.YtleljodcdbhifaaDoorW.PrintWords Go.Proofs.YtleljodcdbhifaaDoorW.PrintLast Go.Proofs.YtleljodcdbhifaaDoorW.PrintMore Hy
attribute [local go_sem ↓] Go.wp_at_zero Go.wp_at_succ
def rfWnd.T11 : Bool × List (List Nat × List Nat) := (true, [([], []), ([], []), ([], []), ([1, 2], [1, 2]), ([3], [3]), ([4], [4]), ([], []), ([], []), ([6, 7], [6, 7]), ([8], [8]), ([9], [9]), ([], []), ([11], [11]), ([], []), ([13], [13]), ([5, 10, 12, 14], [5, 10, 12, 14]), ([0, 15], [0, 15]), ([16, 15, 0, 1, 2, 3, 4, 5, 6, 7, 8, 9, 10, 11, 12, 13, 14, 15, 16], [0, 16])])
def rfWnd.B11 : List Nat := [0, 0, 0, 6, 14, 30, 0, 0, 192, 448, 960, 0, 2048, 0, 8192, 32766, 65535, 131071]
theorem rfWnd.tab11 : rtab .any (opsOf Tryd.f35 11) = rfWnd.T11 := by kernel_rfl
theorem rfWnd.bits11 : waitsOk rfWnd.T11.2 rfWnd.B11 = true := by kernel_rfl
def nearPt (p : S30) : Prop := near13 p.f0 ∧ near13 p.f1
def nearR (s : S89) : Prop := nearPt s.f0 ∧ nearPt s.f1 ∧ nearPt s.f2
theorem nearPt_0 : nearPt z30 := by
  show near13 0 ∧ near13 0
  unfold near13
  omega
theorem ptsR_near (c : List S30) (h : nearC c) (h0 : 0 < c.length) : ∀ n, ∀ p ∈ ptsR c n, nearPt p
  | 0, p, hp => by cases hp
  | n + 1, p, hp => by
    rcases List.mem_append.1 hp with hp | hp
    · exact ptsR_near c h h0 n p hp
    · have a := ptAt_near h h0 n
      have b := ptAt_near h h0 (n + 1)
      unfold blkR at hp
      unfold nearPt near13
      split at hp
      · rcases List.mem_cons.1 hp with rfl | hp
        · show (_ ≤ 2 * (ptAt c n).f0 ∧ 2 * (ptAt c n).f0 ≤ _) ∧ (_ ≤ 2 * (ptAt c n).f1 ∧ 2 * (ptAt c n).f1 ≤ _)
          omega
        · obtain rfl := List.mem_singleton.1 hp
          show (_ ≤ (ptAt c n).f0 + (ptAt c (n + 1)).f0 ∧ (ptAt c n).f0 + (ptAt c (n + 1)).f0 ≤ _) ∧ (_ ≤ (ptAt c n).f1 + (ptAt c (n + 1)).f1 ∧ (ptAt c n).f1 + (ptAt c (n + 1)).f1 ≤ _)
          omega
      · obtain rfl := List.mem_singleton.1 hp
        show (_ ≤ 2 * (ptAt c n).f0 ∧ 2 * (ptAt c n).f0 ≤ _) ∧ (_ ≤ 2 * (ptAt c n).f1 ∧ 2 * (ptAt c n).f1 ≤ _)
        omega
theorem outR_near (L : List S30) (h : ∀ p ∈ L, nearPt p) (h0 : 0 < L.length) : ∀ n, ∀ s ∈ outR L n, nearR s
  | 0, s, hs => by cases hs
  | n + 1, s, hs => by
    rcases List.mem_append.1 hs with hs | hs
    · exact outR_near L h h0 n s hs
    · have a := h _ (ptAt_mem n h0)
      have b := h _ (ptAt_mem (n + 1) h0)
      have c := h _ (ptAt_mem (n + 2) h0)
      unfold itR at hs
      split at hs
      · split at hs
        · obtain rfl := List.mem_singleton.1 hs
          exact ⟨a, nearPt_0, b⟩
        · obtain rfl := List.mem_singleton.1 hs
          exact ⟨a, b, c⟩
      · cases hs
theorem pcsR_near (c : List S30) (h : nearC c) : ∀ s ∈ pcsR c, nearR s := by
  intro s hs
  rcases Nat.eq_zero_or_pos (ptsR c c.length).length with e | e
  · unfold pcsR at hs
    rw [e] at hs
    cases hs
  · have h0 : 0 < c.length := by
      have := ptsR_len c c.length
      omega
    exact outR_near _ (ptsR_near c h h0 _) e _ s hs
theorem pcsR_len (c : List S30) : (pcsR c).length ≤ 2 * c.length := Nat.le_trans (outR_len _ _) (ptsR_len c _)
theorem cntR_b (s : S89) (x y : Int) : -1 ≤ cntR s x y ∧ cntR s x y ≤ 1 := by
  unfold cntR
  split
  · exact cnt_b s.f0.f0 s.f0.f1 s.f1.f0 s.f1.f1 s.f2.f0 s.f2.f1 true x y
  · exact cnt_b s.f0.f0 s.f0.f1 0 0 s.f2.f0 s.f2.f1 false x y
theorem windR_b (l : List S89) (x y : Int) : -(l.length : Int) ≤ windR l x y ∧ windR l x y ≤ l.length := by
  induction l with
  | nil => simp [windR]
  | cons s l ih =>
    have e : windR (s :: l) x y = cntR s x y + windR l x y := by simp [windR]
    have := cntR_b s x y
    rw [e, List.length_cons]
    omega
theorem windR_take (l : List S89) (x y : Int) (k : Nat) (h : k < l.length) : windR (l.take (k + 1)) x y = windR (l.take k) x y + cntR (l.getD k z89) x y := by
  rw [List.take_succ_eq_append_getElem h, windR_app, windR_one, List.getD_eq_getElem?_getD, List.getElem?_eq_getElem h]
  rfl
theorem windA_take (l : List (List S30)) (x y : Int) (k : Nat) (h : k < l.length) : windA (l.take (k + 1)) x y = windA (l.take k) x y + windR (pcsR (l.getD k [])) (2 * x) (2 * y) := by
  unfold windA
  rw [List.take_succ_eq_append_getElem h, List.map_append, List.sum_append, List.getD_eq_getElem?_getD, List.getElem?_eq_getElem h]
  simp
theorem windA_b (l : List (List S30)) (x y : Int) (hm : ∀ c ∈ l, c.length ≤ 1000) : -(2000 * l.length : Int) ≤ windA l x y ∧ windA l x y ≤ 2000 * l.length := by
  induction l with
  | nil => simp [windA]
  | cons c l ih =>
    have e : windA (c :: l) x y = windR (pcsR c) (2 * x) (2 * y) + windA l x y := by simp [windA]
    have h1 := windR_b (pcsR c) (2 * x) (2 * y)
    have h2 := pcsR_len c
    have h3 := hm c (List.mem_cons_self ..)
    have h4 := ih fun d hd => hm d (List.mem_cons_of_mem _ hd)
    rw [e, List.length_cons]
    omega
theorem getD_memR {α : Type} {l : List α} {k : Nat} (h : k < l.length) (z : α) : l.getD k z ∈ l := by
  rw [List.getD_eq_getElem?_getD, List.getElem?_eq_getElem h]
  exact List.getElem_mem h
set_option maxRecDepth 100000 in
set_option maxHeartbeats 4000000 in
theorem windingR_any (l : List (List S30)) (A : Option Addr) (c : Nat) (x y : Int) (w : World) (hC : Kd.C (Kd.slice 30 k30) w A l.length l) (hl : l.length ≤ 4) (hm : ∀ c ∈ l, c.length ≤ 1000) (hn : ∀ c ∈ l, nearC c) (hx : -8192 ≤ x ∧ x ≤ 8192) (hy : -8192 ≤ y ∧ y ≤ 8192) :
    Calls Tryd.prog 35 #[.slice A l.length c, .int .i64 x, .int .i64 y] w fun e w' => e = .returned (.int .i64 (windA l x y)) ∧ Below w.heap.size w w' := by
  have HC := Lib.hid hC
  have HM := Lib.hid hm
  have HN := Lib.hid hn
  have HX : Hid (near14 (2 * x)) := Lib.hid (by unfold near14; omega)
  have HY : Hid (near14 (2 * y)) := Lib.hid (by unfold near14; omega)
  clear hC hm hn
  go_enter Tryd.func35, Tryd.ntmps35
  go_wp2_with fail
  go_loopw [7, 8] (fun v i wr => ∃ k : Nat, i = .int .i64 k ∧ k ≤ l.length ∧ Hid (Below w.heap.size w wr) ∧ v = .int .i64 (windA (l.take k) x y)) (fun _ i _ => l.length - (intOf i).toNat)
  case atStart => exact ⟨0, rfl, Nat.zero_le _, Lib.hid (Below.refl _ _), rfl⟩
  case round =>
    obtain ⟨k, rfl, hk, HBr, rfl⟩ := hrel
    by_cases hlt : k < l.length
    · have d1 : decide (k < l.length) = true := decide_eq_true hlt
      obtain ⟨ad, A0, c0, rfl, h1, hc0, h2⟩ := at_L3 HC.out (k : Int) (by omega) (by omega)
      rw [Int.toNat_natCast] at h1
      have hin : rd_L3 l (k : Int) ∈ l := getD_memR (by omega) _
      have h3 := HM.out _ hin
      have h4 := HN.out _ hin
      have HS : Hid (windA (l.take (k + 1)) x y = windA (l.take k) x y + windR (pcsR (rd_L3 l (k : Int))) (2 * x) (2 * y)) := Lib.hid (windA_take l x y k hlt)
      have hwb := windA_b (l.take k) x y fun d hd => HM.out d (List.mem_of_mem_take hd)
      have htk : (l.take k).length ≤ 4 := by rw [List.length_take]; omega
      clear hin
      generalize rd_L3 l (k : Int) = C at *
      generalize windA (l.take k) x y = wa at *
      have hwb' : -8000 ≤ wa ∧ wa ≤ 8000 := by omega
      clear hwb htk
      replace h1 := pw_cell_below HBr.out h1
      have b0 : (0 : Int) ≤ (k : Int) := by omega
      have b1 : (k : Int) < (l.length : Int) := by omega
      have H4 := Lib.hid h4
      have H2 := Lib.hid (Kd.C_below h2 HBr.out)
      clear h4 h2 hc0
      go_wp2_with fail
      refine (piecesR_any C A0 c0 wr H2.out h3 H4.out).mono ?_
      rintro e w1 ⟨v, rfl, hR, hb⟩
      have HB1 := Lib.hid (bthen' HBr.out hb)
      have hpl := pcsR_len C
      have HP := Lib.hid (pcsR_near C H4.out)
      generalize pcsR C = P at *
      obtain ⟨Av, cv, rfl⟩ := Kd.R_slice hR
      have HD := Lib.hid (Kd.R_reads' hR).2.2
      clear hR hb h1 H4 H2 HBr
      generalize wr = wo at *
      go_wp2_with fail
      go_loopw [7, 10] (fun v i wr => ∃ j : Nat, i = .int .i64 j ∧ j ≤ P.length ∧ Hid (Below w1.heap.size w1 wr) ∧ v = .int .i64 (wa + windR (P.take j) (2 * x) (2 * y))) (fun _ i _ => P.length - (intOf i).toNat)
      case atStart => exact ⟨0, rfl, Nat.zero_le _, Lib.hid (Below.refl _ _), by rw [List.take_zero, windR_nil, Int.add_zero]⟩
      case round =>
        obtain ⟨j, rfl, hj, HBx, rfl⟩ := hrel
        by_cases hjl : j < P.length
        · have d2 : decide (j < P.length) = true := decide_eq_true hjl
          obtain ⟨ap, rfl, p0, p1, p2, p3, p4, p5, p6, p7, p8, p9⟩ := at_T89 HD.out (j : Int) (by omega) (by omega)
          rw [Int.toNat_natCast] at p0 p1 p2 p3 p4 p5 p6 p7 p8 p9
          have hnr := HP.out _ (getD_memR hjl z89)
          have HT : Hid (windR (P.take (j + 1)) (2 * x) (2 * y) = windR (P.take j) (2 * x) (2 * y) + cntR (rd_T89 P (j : Int)) (2 * x) (2 * y)) := Lib.hid (windR_take P _ _ j hjl)
          have hcb := cntR_b (rd_T89 P (j : Int)) (2 * x) (2 * y)
          have hwb := windR_b (P.take j) (2 * x) (2 * y)
          have htk : (P.take j).length ≤ 2000 := by rw [List.length_take]; omega
          change nearR (rd_T89 P (j : Int)) at hnr
          generalize rd_T89 P (j : Int) = s at *
          obtain ⟨⟨x0, y0, f0⟩, ⟨x1, y1, f1⟩, ⟨x2, y2, f2⟩, fc⟩ := s
          obtain ⟨⟨n0, m0⟩, ⟨n1, m1⟩, n2, m2⟩ := hnr
          dsimp only at p0 p1 p2 p3 p4 p5 p6 p7 p8 p9 n0 m0 n1 m1 n2 m2
          generalize windR (P.take j) (2 * x) (2 * y) = wj at *
          have hwj : -2000 ≤ wj ∧ wj ≤ 2000 := by omega
          have P0 := Lib.hid p0
          have P1 := Lib.hid p1
          have P2 := Lib.hid p2
          have P6 := Lib.hid p6
          have P7 := Lib.hid p7
          have P8 := Lib.hid p8
          replace p0 := pw_cell_below HBx.out p0
          replace p1 := pw_cell_below HBx.out p1
          replace p2 := pw_cell_below HBx.out p2
          replace p3 := pw_cell_below HBx.out p3
          replace p4 := pw_cell_below HBx.out p4
          replace p5 := pw_cell_below HBx.out p5
          replace p6 := pw_cell_below HBx.out p6
          replace p7 := pw_cell_below HBx.out p7
          replace p8 := pw_cell_below HBx.out p8
          replace p9 := pw_cell_below HBx.out p9
          have b2 : (0 : Int) ≤ (j : Int) := by omega
          have b3 : (j : Int) < (P.length : Int) := by omega
          clear hwb htk
          cases fc
          · simp only [cntR, Bool.false_eq_true, if_false] at HT hcb
            have HT' := Lib.hid HT.out
            clear HT
            go_upto_region 11 with fail
            obtain ⟨cn, hcn⟩ : ∃ cn, cntL x0 y0 x2 y2 (2 * x) (2 * y) = cn := ⟨_, rfl⟩
            rw [hcn] at hcb HT'
            have CN := Aside0.mk hcn
            have YX := Aside0.mk (show IntKind.i64.wrap (2 * x) = 2 * x from IntWalk.i64_in _ (by omega))
            have YY := Aside0.mk (show IntKind.i64.wrap (2 * y) = 2 * y from IntWalk.i64_in _ (by omega))
            have YS := Aside0.mk (show IntKind.i64.wrap (wa + wj + cn) = wa + wj + cn from IntWalk.i64_in _ (by omega))
            have Y0 := Aside0.mk b2
            have Y1 := Aside0.mk b3
            have HJL := Lib.hid hjl
            replace n0 := Aside0.mk n0
            replace m0 := Aside0.mk m0
            replace n2 := Aside0.mk n2
            replace m2 := Aside0.mk m2
            clear p0 p1 p2 p3 p4 p5 p6 p7 p8 p9 hcn hcb hwj d2 b0 b1 b2 b3 n1 m1 hx hy d1 hwb'
            refine start_ (n := 18) (S := fun w' => True) (ds := []) #[false, false, false, false, false, false, false, false, false, false, false, false, false, false, false, false, false, false] (by kernel_rfl) rfl rfl trivial (fun hHeld => ?_)
            refine with_tabW rfWnd.tab11 rfWnd.bits11 (fun HT_ HW_ => ?_)
            have HB : Aside0 (Below w1.heap.size w1 wr.drew) := ⟨bdrew HBx.out⟩
            generalize hwd : wr.drew = w1' at *
            clear hwd
            refine inv_at [0, 1, 2, 3, 4, 5, 6, 7, 8, 9, 10, 11, 12, 13, 14, 15, 16, 17] (fun a0_ b a w' => a = putSel a0_ b [(0, 44, .int .i64 (wa + wj)), (1, 45, .slice (some ap) P.length cv), (2, 46, .int .i64 j), (3, 47, .pointer (some (ap.add (j * 10)))), (4, 48, .pointer (some (ap.add (j * 10)))), (5, 49, .agg #[.int .i64 x0, .int .i64 y0, .bool f0]), (6, 50, .slice (some ap) P.length cv), (7, 51, .int .i64 j), (8, 52, .pointer (some (ap.add (j * 10)))), (9, 53, .pointer (some ⟨(ap.add (j * 10)).block, (ap.add (j * 10)).off + 6, none⟩)), (10, 54, .agg #[.int .i64 x2, .int .i64 y2, .bool f2]), (11, 55, .int .i64 x), (12, 56, .int .i64 (2 * x)), (13, 57, .int .i64 y), (14, 58, .int .i64 (2 * y)), (15, 59, .int .i64 cn), (16, 60, .int .i64 (wa + wj + cn)), (17, 7, .int .i64 (wa + wj + cn))] ∧ (Below w1.heap.size w1 w')) HT_.out HW_.out (by kernel_rfl) (by kernel_rfl) ?_ ?_ ?_
            · exact ⟨by simp only [putSel, Bool.false_eq_true, if_false], HB.out⟩
            · skip
              clear HB
              refine steps_cons ?_ ?_
              · rintro b a w' ⟨ha, Q_HB⟩ hb_ hon hoff
                refine ⟨_, rfl, fun K hK => ?_⟩
                have e7 : a.tmps[7]? = some (.int .i64 (wa + wj)) := by rw [ha]; exact (putSel_not (hoff 17 (by kernel_rfl)) rfl).trans rfl
                replace ha := Aside0.mk ha
                have HB := Aside0.mk Q_HB
                refine value_ (w1 := w') (v := .int .i64 (wa + wj)) (by rfl) rfl ?_ ?_
                · go_simp
                  (try simp only [i64_w])
                  try rfl
                refine hK.out _ _ ⟨(by rw [ha.out]; exact putSel_upk 0 hb_ rfl rfl rfl), Q_HB⟩
              refine steps_cons ?_ ?_
              · rintro b a w' ⟨ha, Q_HB⟩ hb_ hon hoff
                refine ⟨_, rfl, fun K hK => ?_⟩
                have e9 : a.tmps[9]? = some (.slice (some ap) P.length cv) := by rw [ha]; exact (putSel_off rfl).trans rfl
                replace ha := Aside0.mk ha
                have HB := Aside0.mk Q_HB
                refine value_ (w1 := w') (v := .slice (some ap) P.length cv) (by rfl) rfl ?_ ?_
                · go_simp
                  (try simp only [i64_w])
                  try rfl
                refine hK.out _ _ ⟨(by rw [ha.out]; exact putSel_upk 1 hb_ rfl rfl rfl), Q_HB⟩
              refine steps_cons ?_ ?_
              · rintro b a w' ⟨ha, Q_HB⟩ hb_ hon hoff
                refine ⟨_, rfl, fun K hK => ?_⟩
                have e10 : a.tmps[10]? = some (.int .i64 j) := by rw [ha]; exact (putSel_off rfl).trans rfl
                replace ha := Aside0.mk ha
                have HB := Aside0.mk Q_HB
                refine value_ (w1 := w') (v := .int .i64 j) (by rfl) rfl ?_ ?_
                · go_simp
                  (try simp only [i64_w])
                  try rfl
                refine hK.out _ _ ⟨(by rw [ha.out]; exact putSel_upk 2 hb_ rfl rfl rfl), Q_HB⟩
              refine steps_cons ?_ ?_
              · rintro b a w' ⟨ha, Q_HB⟩ hb_ hon hoff
                refine ⟨_, rfl, fun K hK => ?_⟩
                have e45 : a.tmps[45]? = some (.slice (some ap) P.length cv) := by rw [ha]; exact putSel_on (e := (1, 45, .slice (some ap) P.length cv)) 1 rfl rfl (hon 1 (by kernel_rfl)) rfl
                have e46 : a.tmps[46]? = some (.int .i64 j) := by rw [ha]; exact putSel_on (e := (2, 46, .int .i64 j)) 2 rfl rfl (hon 2 (by kernel_rfl)) rfl
                replace ha := Aside0.mk ha
                have HB := Aside0.mk Q_HB
                have y0 := Y0.out
                have y1 := Y1.out
                refine value_ (w1 := w') (v := .pointer (some (ap.add (j * 10)))) (by rfl) rfl ?_ ?_
                · go_simp
                  (try simp only [i64_w])
                  try rfl
                refine hK.out _ _ ⟨(by rw [ha.out]; exact putSel_upk 3 hb_ rfl rfl rfl), Q_HB⟩
              refine steps_cons ?_ ?_
              · rintro b a w' ⟨ha, Q_HB⟩ hb_ hon hoff
                refine ⟨_, rfl, fun K hK => ?_⟩
                have e47 : a.tmps[47]? = some (.pointer (some (ap.add (j * 10)))) := by rw [ha]; exact putSel_on (e := (3, 47, .pointer (some (ap.add (j * 10))))) 3 rfl rfl (hon 3 (by kernel_rfl)) rfl
                replace ha := Aside0.mk ha
                have HB := Aside0.mk Q_HB
                refine value_ (w1 := w') (v := .pointer (some (ap.add (j * 10)))) (by rfl) rfl ?_ ?_
                · go_simp
                  (try simp only [i64_w])
                  try rfl
                refine hK.out _ _ ⟨(by rw [ha.out]; exact putSel_upk 4 hb_ rfl rfl rfl), Q_HB⟩
              refine steps_cons ?_ ?_
              · rintro b a w' ⟨ha, Q_HB⟩ hb_ hon hoff
                refine ⟨_, rfl, fun K hK => ?_⟩
                have e48 : a.tmps[48]? = some (.pointer (some (ap.add (j * 10)))) := by rw [ha]; exact putSel_on (e := (4, 48, .pointer (some (ap.add (j * 10))))) 4 rfl rfl (hon 4 (by kernel_rfl)) rfl
                replace ha := Aside0.mk ha
                have HB := Aside0.mk Q_HB
                have z10 : w'.cell? (ap.add (j * 10)) = some (.int .i64 x0) := pw_cell_below HB.out P0.out
                have z11 : w'.cell? ⟨(ap.add (j * 10)).block, (ap.add (j * 10)).off + 1, none⟩ = some (.int .i64 y0) := pw_cell_below HB.out P1.out
                have z12 : w'.cell? ⟨(ap.add (j * 10)).block, (ap.add (j * 10)).off + 2, none⟩ = some (.bool f0) := pw_cell_below HB.out P2.out
                refine value_ (w1 := w') (v := .agg #[.int .i64 x0, .int .i64 y0, .bool f0]) (by rfl) rfl ?_ ?_
                · go_simp
                  (try simp only [i64_w])
                  try rfl
                refine hK.out _ _ ⟨(by rw [ha.out]; exact putSel_upk 5 hb_ rfl rfl rfl), Q_HB⟩
              refine steps_cons ?_ ?_
              · rintro b a w' ⟨ha, Q_HB⟩ hb_ hon hoff
                refine ⟨_, rfl, fun K hK => ?_⟩
                have e9 : a.tmps[9]? = some (.slice (some ap) P.length cv) := by rw [ha]; exact (putSel_off rfl).trans rfl
                replace ha := Aside0.mk ha
                have HB := Aside0.mk Q_HB
                refine value_ (w1 := w') (v := .slice (some ap) P.length cv) (by rfl) rfl ?_ ?_
                · go_simp
                  (try simp only [i64_w])
                  try rfl
                refine hK.out _ _ ⟨(by rw [ha.out]; exact putSel_upk 6 hb_ rfl rfl rfl), Q_HB⟩
              refine steps_cons ?_ ?_
              · rintro b a w' ⟨ha, Q_HB⟩ hb_ hon hoff
                refine ⟨_, rfl, fun K hK => ?_⟩
                have e10 : a.tmps[10]? = some (.int .i64 j) := by rw [ha]; exact (putSel_off rfl).trans rfl
                replace ha := Aside0.mk ha
                have HB := Aside0.mk Q_HB
                refine value_ (w1 := w') (v := .int .i64 j) (by rfl) rfl ?_ ?_
                · go_simp
                  (try simp only [i64_w])
                  try rfl
                refine hK.out _ _ ⟨(by rw [ha.out]; exact putSel_upk 7 hb_ rfl rfl rfl), Q_HB⟩
              refine steps_cons ?_ ?_
              · rintro b a w' ⟨ha, Q_HB⟩ hb_ hon hoff
                refine ⟨_, rfl, fun K hK => ?_⟩
                have e50 : a.tmps[50]? = some (.slice (some ap) P.length cv) := by rw [ha]; exact putSel_on (e := (6, 50, .slice (some ap) P.length cv)) 6 rfl rfl (hon 6 (by kernel_rfl)) rfl
                have e51 : a.tmps[51]? = some (.int .i64 j) := by rw [ha]; exact putSel_on (e := (7, 51, .int .i64 j)) 7 rfl rfl (hon 7 (by kernel_rfl)) rfl
                replace ha := Aside0.mk ha
                have HB := Aside0.mk Q_HB
                have y0 := Y0.out
                have y1 := Y1.out
                refine value_ (w1 := w') (v := .pointer (some (ap.add (j * 10)))) (by rfl) rfl ?_ ?_
                · go_simp
                  (try simp only [i64_w])
                  try rfl
                refine hK.out _ _ ⟨(by rw [ha.out]; exact putSel_upk 8 hb_ rfl rfl rfl), Q_HB⟩
              refine steps_cons ?_ ?_
              · rintro b a w' ⟨ha, Q_HB⟩ hb_ hon hoff
                refine ⟨_, rfl, fun K hK => ?_⟩
                have e52 : a.tmps[52]? = some (.pointer (some (ap.add (j * 10)))) := by rw [ha]; exact putSel_on (e := (8, 52, .pointer (some (ap.add (j * 10))))) 8 rfl rfl (hon 8 (by kernel_rfl)) rfl
                replace ha := Aside0.mk ha
                have HB := Aside0.mk Q_HB
                refine value_ (w1 := w') (v := .pointer (some ⟨(ap.add (j * 10)).block, (ap.add (j * 10)).off + 6, none⟩)) (by rfl) rfl ?_ ?_
                · go_simp
                  (try simp only [i64_w])
                  try rfl
                refine hK.out _ _ ⟨(by rw [ha.out]; exact putSel_upk 9 hb_ rfl rfl rfl), Q_HB⟩
              refine steps_cons ?_ ?_
              · rintro b a w' ⟨ha, Q_HB⟩ hb_ hon hoff
                refine ⟨_, rfl, fun K hK => ?_⟩
                have e53 : a.tmps[53]? = some (.pointer (some ⟨(ap.add (j * 10)).block, (ap.add (j * 10)).off + 6, none⟩)) := by rw [ha]; exact putSel_on (e := (9, 53, .pointer (some ⟨(ap.add (j * 10)).block, (ap.add (j * 10)).off + 6, none⟩))) 9 rfl rfl (hon 9 (by kernel_rfl)) rfl
                replace ha := Aside0.mk ha
                have HB := Aside0.mk Q_HB
                have z16 : w'.cell? ⟨(ap.add (j * 10)).block, (ap.add (j * 10)).off + 6, none⟩ = some (.int .i64 x2) := pw_cell_below HB.out P6.out
                have z17 : w'.cell? ⟨(ap.add (j * 10)).block, (ap.add (j * 10)).off + 7, none⟩ = some (.int .i64 y2) := pw_cell_below HB.out P7.out
                have z18 : w'.cell? ⟨(ap.add (j * 10)).block, (ap.add (j * 10)).off + 8, none⟩ = some (.bool f2) := pw_cell_below HB.out P8.out
                refine value_ (w1 := w') (v := .agg #[.int .i64 x2, .int .i64 y2, .bool f2]) (by rfl) rfl ?_ ?_
                · go_simp
                  (try simp only [i64_w])
                  try rfl
                refine hK.out _ _ ⟨(by rw [ha.out]; exact putSel_upk 10 hb_ rfl rfl rfl), Q_HB⟩
              refine steps_cons ?_ ?_
              · rintro b a w' ⟨ha, Q_HB⟩ hb_ hon hoff
                refine ⟨_, rfl, fun K hK => ?_⟩
                have e1 : a.tmps[1]? = some (.int .i64 x) := by rw [ha]; exact (putSel_off rfl).trans rfl
                replace ha := Aside0.mk ha
                have HB := Aside0.mk Q_HB
                refine value_ (w1 := w') (v := .int .i64 x) (by rfl) rfl ?_ ?_
                · go_simp
                  (try simp only [i64_w])
                  try rfl
                refine hK.out _ _ ⟨(by rw [ha.out]; exact putSel_upk 11 hb_ rfl rfl rfl), Q_HB⟩
              refine steps_cons ?_ ?_
              · rintro b a w' ⟨ha, Q_HB⟩ hb_ hon hoff
                refine ⟨_, rfl, fun K hK => ?_⟩
                have e55 : a.tmps[55]? = some (.int .i64 x) := by rw [ha]; exact putSel_on (e := (11, 55, .int .i64 x)) 11 rfl rfl (hon 11 (by kernel_rfl)) rfl
                replace ha := Aside0.mk ha
                have HB := Aside0.mk Q_HB
                have y2 := YX.out
                refine value_ (w1 := w') (v := .int .i64 (2 * x)) (by rfl) rfl ?_ ?_
                · go_simp
                  (try simp only [i64_w])
                  try rfl
                refine hK.out _ _ ⟨(by rw [ha.out]; exact putSel_upk 12 hb_ rfl rfl rfl), Q_HB⟩
              refine steps_cons ?_ ?_
              · rintro b a w' ⟨ha, Q_HB⟩ hb_ hon hoff
                refine ⟨_, rfl, fun K hK => ?_⟩
                have e2 : a.tmps[2]? = some (.int .i64 y) := by rw [ha]; exact (putSel_off rfl).trans rfl
                replace ha := Aside0.mk ha
                have HB := Aside0.mk Q_HB
                refine value_ (w1 := w') (v := .int .i64 y) (by rfl) rfl ?_ ?_
                · go_simp
                  (try simp only [i64_w])
                  try rfl
                refine hK.out _ _ ⟨(by rw [ha.out]; exact putSel_upk 13 hb_ rfl rfl rfl), Q_HB⟩
              refine steps_cons ?_ ?_
              · rintro b a w' ⟨ha, Q_HB⟩ hb_ hon hoff
                refine ⟨_, rfl, fun K hK => ?_⟩
                have e57 : a.tmps[57]? = some (.int .i64 y) := by rw [ha]; exact putSel_on (e := (13, 57, .int .i64 y)) 13 rfl rfl (hon 13 (by kernel_rfl)) rfl
                replace ha := Aside0.mk ha
                have HB := Aside0.mk Q_HB
                have y3 := YY.out
                refine value_ (w1 := w') (v := .int .i64 (2 * y)) (by rfl) rfl ?_ ?_
                · go_simp
                  (try simp only [i64_w])
                  try rfl
                refine hK.out _ _ ⟨(by rw [ha.out]; exact putSel_upk 14 hb_ rfl rfl rfl), Q_HB⟩
              refine steps_cons ?_ ?_
              · rintro b a w' ⟨ha, Q_HB⟩ hb_ hon hoff
                refine ⟨_, rfl, fun K hK => ?_⟩
                have e49 : a.tmps[49]? = some (.agg #[.int .i64 x0, .int .i64 y0, .bool f0]) := by rw [ha]; exact putSel_on (e := (5, 49, .agg #[.int .i64 x0, .int .i64 y0, .bool f0])) 5 rfl rfl (hon 5 (by kernel_rfl)) rfl
                have e54 : a.tmps[54]? = some (.agg #[.int .i64 x2, .int .i64 y2, .bool f2]) := by rw [ha]; exact putSel_on (e := (10, 54, .agg #[.int .i64 x2, .int .i64 y2, .bool f2])) 10 rfl rfl (hon 10 (by kernel_rfl)) rfl
                have e56 : a.tmps[56]? = some (.int .i64 (2 * x)) := by rw [ha]; exact putSel_on (e := (12, 56, .int .i64 (2 * x))) 12 rfl rfl (hon 12 (by kernel_rfl)) rfl
                have e58 : a.tmps[58]? = some (.int .i64 (2 * y)) := by rw [ha]; exact putSel_on (e := (14, 58, .int .i64 (2 * y))) 14 rfl rfl (hon 14 (by kernel_rfl)) rfl
                replace ha := Aside0.mk ha
                have HB := Aside0.mk Q_HB
                refine call_ 53 #[.agg #[.int .i64 x0, .int .i64 y0, .bool f0], .agg #[.int .i64 x2, .int .i64 y2, .bool f2], .int .i64 (2 * x), .int .i64 (2 * y)] (by rfl) rfl ?_ ?_
                · go_simp
                refine (lineR_any x0 y0 x2 y2 f0 f2 (2 * x) (2 * y) w' n0.out m0.out n2.out m2.out HX.out HY.out).mono ?_
                rintro e w2' ⟨rfl, hb⟩
                rw [CN.out]
                refine ⟨_, rfl, ?_⟩
                refine hK.out _ _ ⟨(by rw [ha.out]; exact putSel_upk 15 hb_ rfl rfl rfl), bthen' HB.out hb⟩
              refine steps_cons ?_ ?_
              · rintro b a w' ⟨ha, Q_HB⟩ hb_ hon hoff
                refine ⟨_, rfl, fun K hK => ?_⟩
                have e44 : a.tmps[44]? = some (.int .i64 (wa + wj)) := by rw [ha]; exact putSel_on (e := (0, 44, .int .i64 (wa + wj))) 0 rfl rfl (hon 0 (by kernel_rfl)) rfl
                have e59 : a.tmps[59]? = some (.int .i64 cn) := by rw [ha]; exact putSel_on (e := (15, 59, .int .i64 cn)) 15 rfl rfl (hon 15 (by kernel_rfl)) rfl
                replace ha := Aside0.mk ha
                have HB := Aside0.mk Q_HB
                have y4 := YS.out
                refine value_ (w1 := w') (v := .int .i64 (wa + wj + cn)) (by rfl) rfl ?_ ?_
                · go_simp
                  (try simp only [i64_w])
                  try rfl
                refine hK.out _ _ ⟨(by rw [ha.out]; exact putSel_upk 16 hb_ rfl rfl rfl), Q_HB⟩
              refine steps_cons ?_ ?_
              · rintro b a w' ⟨ha, Q_HB⟩ hb_ hon hoff
                refine ⟨_, rfl, fun K hK => ?_⟩
                have e60 : a.tmps[60]? = some (.int .i64 (wa + wj + cn)) := by rw [ha]; exact putSel_on (e := (16, 60, .int .i64 (wa + wj + cn))) 16 rfl rfl (hon 16 (by kernel_rfl)) rfl
                replace ha := Aside0.mk ha
                have HB := Aside0.mk Q_HB
                refine value_ (w1 := w') (v := .int .i64 (wa + wj + cn)) (by rfl) rfl ?_ ?_
                · go_simp
                  (try simp only [i64_w])
                  try rfl
                refine hK.out _ _ ⟨(by rw [ha.out]; exact putSel_upk 17 hb_ rfl rfl rfl), Q_HB⟩
              exact steps_nil
            · rintro b a w' hall ⟨ha, Q_HB⟩
              clear HB
              have hb0_ := hall 0 (by kernel_rfl)
              have hb1_ := hall 1 (by kernel_rfl)
              have hb2_ := hall 2 (by kernel_rfl)
              have hb3_ := hall 3 (by kernel_rfl)
              have hb4_ := hall 4 (by kernel_rfl)
              have hb5_ := hall 5 (by kernel_rfl)
              have hb6_ := hall 6 (by kernel_rfl)
              have hb7_ := hall 7 (by kernel_rfl)
              have hb8_ := hall 8 (by kernel_rfl)
              have hb9_ := hall 9 (by kernel_rfl)
              have hb10_ := hall 10 (by kernel_rfl)
              have hb11_ := hall 11 (by kernel_rfl)
              have hb12_ := hall 12 (by kernel_rfl)
              have hb13_ := hall 13 (by kernel_rfl)
              have hb14_ := hall 14 (by kernel_rfl)
              have hb15_ := hall 15 (by kernel_rfl)
              have hb16_ := hall 16 (by kernel_rfl)
              have hb17_ := hall 17 (by kernel_rfl)
              subst ha
              simp only [putSel, hb0_, hb1_, hb2_, hb3_, hb4_, hb5_, hb6_, hb7_, hb8_, hb9_, hb10_, hb11_, hb12_, hb13_, hb14_, hb15_, hb16_, hb17_, if_true, Act.put, List.setIfInBounds_toArray, List.set_cons_zero, List.set_cons_succ]
              have HB := Aside0.mk Q_HB
              clear Q_HB
              clear hall hb0_ hb1_ hb2_ hb3_ hb4_ hb5_ hb6_ hb7_ hb8_ hb9_ hb10_ hb11_ hb12_ hb13_ hb14_ hb15_ hb16_ hb17_
              have HB3 := Lib.hid HB.out
              have hjl := HJL.out
              go_wp2_with fail
              exact ⟨⟨j + 1, by go_num, by omega, HB3, by rw [HT'.out, Int.add_assoc]⟩, by simp [intOf]; omega⟩
          · simp only [cntR, if_true] at HT hcb
            have HT' := Lib.hid HT.out
            clear HT
            go_wp2_with fail
            refine (curveR_any x0 y0 x1 y1 x2 y2 f0 f1 f2 true (2 * x) (2 * y) wr n0 m0 n1 m1 n2 m2 HX.out HY.out).mono ?_
            rintro e w3 ⟨rfl, hb⟩
            have HB3 := Lib.hid (bthen' HBx.out hb)
            clear hb HBx p0 p1 p2 p3 p4 p5 p6 p7 p8 p9
            generalize cntC x0 y0 x1 y1 x2 y2 (2 * x) (2 * y) = cn at *
            go_wp2_with fail
            exact ⟨⟨j + 1, by go_num, by omega, HB3, by rw [HT'.out, Int.add_assoc]⟩, by simp [intOf]; omega⟩
        · have hjj : j = P.length := by omega
          subst hjj
          rw [List.take_length]
          have HZ := Lib.hid HS.out
          clear HS
          generalize windR P (2 * x) (2 * y) = wj at *
          go_wp2_with fail
          exact ⟨⟨k + 1, by go_num, by omega, Lib.hid (bthen' HB1.out HBx.out), by rw [HZ.out]⟩, by simp [intOf]; omega⟩
    · have hkl : k = l.length := by omega
      subst hkl
      rw [List.take_length]
      go_wp2_with fail
      go_ret
      exact ⟨rfl, HBr.out⟩
end Go.Proofs.YtleljodcdbhifaaDoor
/- The reference's near and allNear: walked. -/
set_option linter.unusedVariables false
set_option linter.unusedSimpArgs false
namespace Go.Proofs.YtleljodcdbhifaaDoor
open Go.RowKit Go.Proofs.YtleljodcdbhifaaDoorW.PrintWords Go.Proofs.YtleljodcdbhifaaDoorW.PrintLast Go.Proofs.YtleljodcdbhifaaDoorW.PrintMore Hy
theorem nearR_any (n : Int) (w : World) : Calls Tryd.prog 33 #[.int .i64 n] w fun e w' => e = .returned (.bool (nearB n)) ∧ w = w' := by
  by_cases h1 : -4096 ≤ n
  · have d1 : decide (-4096 ≤ n) = true := decide_eq_true h1
    have E : nearB n = decide (n ≤ 4096) := by unfold nearB near12; simp [h1]
    rw [E]
    clear E h1
    go_enter Tryd.func33, Tryd.ntmps33
    go_wp2
    go_ret
    exact ⟨rfl, rfl⟩
  · have d1 : decide (-4096 ≤ n) = false := decide_eq_false h1
    have E : nearB n = false := decide_eq_false (fun h => h1 h.1)
    rw [E]
    clear E h1
    go_enter Tryd.func33, Tryd.ntmps33
    go_wp2
    go_ret
    exact ⟨rfl, rfl⟩
theorem nearL_no {l : List (List S30)} {C : List S30} {p : S30} (hC : C ∈ l) (hp : p ∈ C) (h : farB p = true) : nearL l = false := by
  unfold nearL
  rw [List.any_eq_true.2 ⟨C, hC, List.any_eq_true.2 ⟨p, hp, h⟩⟩]
  rfl
theorem nearL_yes {l : List (List S30)} (h : ∀ i, i < l.length → ∀ p ∈ l.getD i [], farB p = false) : nearL l = true := by
  unfold nearL
  rw [Bool.not_eq_true', List.any_eq_false]
  intro C hC
  rw [Bool.not_eq_true, List.any_eq_false]
  intro p hp
  obtain ⟨i, hi, rfl⟩ := List.getElem_of_mem hC
  have := h i hi p (by rw [List.getD_eq_getElem?_getD, List.getElem?_eq_getElem hi]; exact hp)
  rw [this]
  decide
theorem getD_in {α : Type} {l : List α} {k : Nat} (h : k < l.length) (z : α) : l.getD k z ∈ l := by
  rw [List.getD_eq_getElem?_getD, List.getElem?_eq_getElem h]
  exact List.getElem_mem h
theorem pre_snoc {l : List S30} {j : Nat} (h : ∀ i, i < j → farB (l.getD i z30) = false) (hj : farB (l.getD j z30) = false) : ∀ i, i < j + 1 → farB (l.getD i z30) = false := fun i hi => by
  rcases Nat.lt_or_ge i j with k | k
  · exact h i k
  · rw [show i = j by omega]; exact hj
set_option maxRecDepth 100000 in
set_option maxHeartbeats 4000000 in
theorem allNearR_any (l : List (List S30)) (A : Option Addr) (c : Nat) (w : World) (hC : Kd.C (Kd.slice 30 k30) w A l.length l) :
    Calls Tryd.prog 34 #[.slice A l.length c] w fun e w' => e = .returned (.bool (nearL l)) ∧ w = w' := by
  have hmx : l.length ≤ 9223372036854775807 := hC.2.1
  have HC := Lib.hid hC
  clear hC
  go_enter Tryd.func34, Tryd.ntmps34
  go_wp2_with fail
  go_loop [3] (fun i => ∃ k : Nat, i = .int .i64 k ∧ k ≤ l.length ∧ Hid (∀ i, i < k → ∀ p ∈ l.getD i [], farB p = false)) (fun i => l.length - (intOf i).toNat)
  case atStart => exact ⟨0, rfl, Nat.zero_le _, Lib.hid (fun i hi => absurd hi (Nat.not_lt_zero _))⟩
  case round =>
    obtain ⟨k, rfl, hk, HK⟩ := hrel
    by_cases hlt : k < l.length
    · have d1 : decide (k < l.length) = true := decide_eq_true hlt
      obtain ⟨ad, A0, c0, rfl, h1, hc0, h2⟩ := at_L3 HC.out (k : Int) (by omega) (by omega)
      rw [Int.toNat_natCast] at h1
      have HIN : Hid (rd_L3 l (k : Int) ∈ l) := Lib.hid (getD_in (by omega) _)
      have HEQ : Hid (rd_L3 l (k : Int) = l.getD k []) := Lib.hid rfl
      generalize rd_L3 l (k : Int) = C at *
      have hmC : C.length ≤ 9223372036854775807 := h2.2.1
      have b0 : (0 : Int) ≤ (k : Int) := by omega
      have b1 : (k : Int) < (l.length : Int) := by omega
      have H2 := Lib.hid h2
      clear h2 hc0
      go_wp2_with fail
      go_loop [4] (fun i => ∃ j : Nat, i = .int .i64 j ∧ j ≤ C.length ∧ Hid (∀ i, i < j → farB (C.getD i z30) = false)) (fun i => C.length - (intOf i).toNat)
      case atStart => exact ⟨0, rfl, Nat.zero_le _, Lib.hid (fun i hi => absurd hi (Nat.not_lt_zero _))⟩
      case round =>
        obtain ⟨j, rfl, hj, HJ⟩ := hrel
        by_cases hjl : j < C.length
        · have d2 : decide (j < C.length) = true := decide_eq_true hjl
          obtain ⟨ap, rfl, p0, p1, p2⟩ := pt_cells H2.out j hjl
          have HPI : Hid (C.getD j z30 ∈ C) := Lib.hid (getD_in hjl _)
          have HS := Lib.hid (fun h => pre_snoc HJ.out (j := j) h)
          generalize C.getD j z30 = p at *
          obtain ⟨x, y, f⟩ := p
          dsimp only at p0 p1 p2
          have b2 : (0 : Int) ≤ (j : Int) := by omega
          have b3 : (j : Int) < (C.length : Int) := by omega
          have N0 := Lib.hid (nearR_any x)
          have N1 := Lib.hid (nearR_any y)
          have HF : Hid (farB ⟨x, y, f⟩ = (!nearB x || !nearB y)) := Lib.hid rfl
          generalize nearB x = bx at *
          generalize nearB y = by' at *
          clear p2
          cases bx
          · go_wp2_with fail
            refine (N0.out _).mono ?_
            rintro e w' ⟨rfl, rfl⟩
            go_wp2_with fail
            go_ret
            exact ⟨ret_bool (nearL_no HIN.out HPI.out HF.out).symm, rfl⟩
          · cases by'
            · go_wp2_with fail
              refine (N0.out _).mono ?_
              rintro e w' ⟨rfl, rfl⟩
              go_wp2_with fail
              refine (N1.out _).mono ?_
              rintro e w' ⟨rfl, rfl⟩
              go_wp2_with fail
              go_ret
              exact ⟨ret_bool (nearL_no HIN.out HPI.out HF.out).symm, rfl⟩
            · go_wp2_with fail
              refine (N0.out _).mono ?_
              rintro e w' ⟨rfl, rfl⟩
              go_wp2_with fail
              refine (N1.out _).mono ?_
              rintro e w' ⟨rfl, rfl⟩
              go_wp2_with fail
              exact ⟨⟨j + 1, by go_num, by omega, Lib.hid (HS.out HF.out)⟩, by simp [intOf]; omega⟩
        · have HN : Hid (∀ i, i < k + 1 → ∀ p ∈ l.getD i [], farB p = false) := Lib.hid (fun i hi p hp => by
            rcases Nat.lt_or_ge i k with h | h
            · exact HK.out i h p hp
            · rw [show i = k by omega, ← HEQ.out] at hp
              obtain ⟨q, hq, rfl⟩ := List.getElem_of_mem hp
              have := HJ.out q (by omega)
              rw [List.getD_eq_getElem?_getD, List.getElem?_eq_getElem hq] at this
              exact this)
          have d2 : decide (j < C.length) = false := decide_eq_false hjl
          go_wp2_with fail
          exact ⟨⟨k + 1, by go_num, by omega, HN⟩, by simp [intOf]; omega⟩
    · have d1 : decide (k < l.length) = false := decide_eq_false hlt
      have hkl : k = l.length := by omega
      have HE : Hid (nearL l = true) := Lib.hid (nearL_yes fun i hi => HK.out i (by omega))
      go_wp2_with fail
      go_ret
      exact ⟨ret_bool HE.out.symm, rfl⟩
end Go.Proofs.YtleljodcdbhifaaDoor
/- The reference's Fill: what the program's does. -/
set_option linter.unusedVariables false
set_option linter.unusedSimpArgs false
namespace Go.Proofs.YtleljodcdbhifaaDoor
open Go.RowKit Go.Proofs.YtleljodcdbhifaaDoorW.PrintWords Go.Proofs.YtleljodcdbhifaaDoorW.PrintLast Go.Proofs.YtleljodcdbhifaaDoorW.PrintMore Hy
/-- the box of the points so far, as the reference keeps it -/
def St (ps : List S30) (x0 x1 y0 y1 : Int) (fs : Bool) : Prop := (ps = [] ∧ fs = true ∧ x0 = 0 ∧ x1 = 0 ∧ y0 = 0 ∧ y1 = 0) ∨ (ps ≠ [] ∧ fs = false ∧ x0 = X0 ps ∧ x1 = X1 ps ∧ y0 = Y0 ps ∧ y1 = Y1 ps)
theorem box_app (ps : List S30) (p : S30) : X0 (ps ++ [p]) = min (X0 ps) (p.f0 / 64) ∧ X1 (ps ++ [p]) = max (X1 ps) (p.f0 / 64) ∧ Y0 (ps ++ [p]) = min (Y0 ps) (p.f1 / 64) ∧ Y1 (ps ++ [p]) = max (Y1 ps) (p.f1 / 64) := by
  unfold X0 X1 Y0 Y1
  simp only [List.map_append, List.map_cons, List.map_nil]
  have a (f : Int) (l : List Int) (x : Int) : minF f (l ++ [x]) = min (minF f l) x := by simp [minF, List.foldl_append]
  have b (f : Int) (l : List Int) (x : Int) : maxF f (l ++ [x]) = max (maxF f l) x := by simp [maxF, List.foldl_append]
  rw [a, b, a, b]
  omega
theorem st_more {ps : List S30} {x0 x1 y0 y1 : Int} (h : St ps x0 x1 y0 y1 false) (p : S30) : St (ps ++ [p]) (min x0 (p.f0 / 64)) (max x1 (p.f0 / 64)) (min y0 (p.f1 / 64)) (max y1 (p.f1 / 64)) false := by
  rcases h with ⟨_, h, _⟩ | ⟨h1, _, rfl, rfl, rfl, rfl⟩
  · cases h
  · obtain ⟨e1, e2, e3, e4⟩ := box_app ps p
    exact .inr ⟨by simp, rfl, e1.symm, e2.symm, e3.symm, e4.symm⟩
theorem st_first {ps : List S30} {x0 x1 y0 y1 : Int} (h : St ps x0 x1 y0 y1 true) (p : S30) (hp : nearP p) : St (ps ++ [p]) (p.f0 / 64) (p.f0 / 64) (p.f1 / 64) (p.f1 / 64) false := by
  rcases h with ⟨rfl, _⟩ | ⟨_, h, _⟩
  · refine .inr ⟨by simp, rfl, ?_⟩
    unfold X0 X1 Y0 Y1 minF maxF
    unfold nearP near12 at hp
    simp only [List.nil_append, List.map_cons, List.map_nil, List.foldl_cons, List.foldl_nil]
    omega
  · cases h
theorem rows_ok (ps : List S84) (x0 y0 : Int) (wN hN : Nat) (hw : 1 ≤ wN ∧ wN ≤ 64) (hh : 1 ≤ hN ∧ hN ≤ 64) (hx : -64 ≤ x0 ∧ x0 ≤ 64) (hy : -64 ≤ y0 ∧ y0 ≤ 64) : okB x0 y0 wN hN (rowsN ps x0 y0 wN hN) = true ∧ ∀ r ∈ rowsN ps x0 y0 wN hN, u64 r := by
  have hu := rowsN_u64 ps x0 y0 wN hN hw.2
  have hl : (rowsN ps x0 y0 wN hN).length = hN := by unfold rowsN; rw [List.length_map, List.length_range]
  refine ⟨okB_mk (by omega) (by omega) (by omega) (by omega) (by omega) hu ?_, hu⟩
  intro r hr
  obtain ⟨k, hk, rfl⟩ := mem_getD hr
  rw [rowsN_getD ps x0 y0 wN hN k (by omega), Int.toNat_natCast, Int.toNat_natCast]
  exact rowN_lt _ _ _ _
theorem st_end {l : List (List S30)} {x0 x1 y0 y1 : Int} {fs : Bool} (hn : nearL l = true) (h : St (ptsOf l) x0 x1 y0 y1 fs) : (-64 ≤ x0 ∧ x0 ≤ x1 ∧ x1 ≤ 64) ∧ (-64 ≤ y0 ∧ y0 ≤ y1 ∧ y1 ≤ 64) ∧ ((63 < x1 - x0 ∨ 63 < y1 - y0) → fillB l = (Bm.zero, 3)) ∧
    (∀ wN hN : Nat, x1 - x0 + 1 = wN → y1 - y0 + 1 = hN → wN ≤ 64 → hN ≤ 64 → fillB l = (trimB ⟨x0, y0, wN, hN, rowsN (allP l) x0 y0 wN hN⟩, 0) ∧ okB x0 y0 wN hN (rowsN (allP l) x0 y0 wN hN) = true ∧ ∀ r ∈ rowsN (allP l) x0 y0 wN hN, u64 r) := by
  rcases h with ⟨h0, _, rfl, rfl, rfl, rfl⟩ | ⟨h0, _, rfl, rfl, rfl, rfl⟩
  · refine ⟨by omega, by omega, fun h => by omega, fun wN hN e1 e2 _ _ => ?_⟩
    obtain rfl : wN = 1 := by omega
    obtain rfl : hN = 1 := by omega
    obtain ⟨o1, o2⟩ := rows_ok (allP l) 0 0 1 1 (by omega) (by omega) (by omega) (by omega)
    refine ⟨?_, o1, o2⟩
    have hz : wind (allP l) (64 * (0 + (0 : Nat)) + 32) (64 * 0 + 32) = 0 := wind_out l _ _ (.inl fun p hp => by rw [h0] at hp; cases hp)
    have hr : rowsN (allP l) 0 0 1 1 = [0] := by
      unfold rowsN
      rw [show List.range 1 = [0] from rfl, List.map_cons, List.map_nil]
      congr 1
      rw [show (0 : Int) + ((0 : Nat) : Int) = 0 from rfl, rowN, if_neg (by rw [hz]; simp), rowN]
      rfl
    rw [hr]
    have ht : trimB ⟨0, 0, ((1 : Nat) : Int), ((1 : Nat) : Int), [0]⟩ = Bm.zero := by
      unfold trimB
      rw [if_pos (by unfold usedOf; split <;> rfl)]
    rw [ht]
    unfold fillB
    rw [if_neg (by rw [hn]; simp), if_pos h0]
  · obtain ⟨m1, m2, m3, m4⟩ := mm_b (allNear hn) rfl
    obtain ⟨p, hp⟩ := List.exists_mem_of_ne_nil _ h0
    have a1 := (minF_le ((ptsOf l).map (·.f0)) 4096).2 _ (List.mem_map.2 ⟨p, hp, rfl⟩)
    have a2 := (maxF_le ((ptsOf l).map (·.f0)) (-4096)).2 _ (List.mem_map.2 ⟨p, hp, rfl⟩)
    have a3 := (minF_le ((ptsOf l).map (·.f1)) 4096).2 _ (List.mem_map.2 ⟨p, hp, rfl⟩)
    have a4 := (maxF_le ((ptsOf l).map (·.f1)) (-4096)).2 _ (List.mem_map.2 ⟨p, hp, rfl⟩)
    have b1 : -64 ≤ X0 (ptsOf l) ∧ X0 (ptsOf l) ≤ X1 (ptsOf l) ∧ X1 (ptsOf l) ≤ 64 := by unfold X0 X1; omega
    have b2 : -64 ≤ Y0 (ptsOf l) ∧ Y0 (ptsOf l) ≤ Y1 (ptsOf l) ∧ Y1 (ptsOf l) ≤ 64 := by unfold Y0 Y1; omega
    refine ⟨b1, b2, fun h => ?_, fun wN hN e1 e2 hw hh => ?_⟩
    · unfold fillB
      rw [if_neg (by rw [hn]; simp), if_neg h0, if_pos h]
    · obtain ⟨o1, o2⟩ := rows_ok (allP l) (X0 (ptsOf l)) (Y0 (ptsOf l)) wN hN (by omega) (by omega) (by omega) (by omega)
      refine ⟨?_, o1, o2⟩
      rw [fill_box ⟨hn, h0, by omega, by omega⟩]
      unfold rawB
      dsimp only
      rw [e1, e2, Int.toNat_natCast, Int.toNat_natCast]
theorem nearC_M {m : List (List S30)} (h : nearL m = true) : ∀ c ∈ m, nearC c := by
  intro c hc p hp
  have h2 := nearL_mem h c hc p hp
  unfold nearP near12 at h2
  omega
theorem downR_any (n : Int) (w : World) (hn : -4096 ≤ n ∧ n ≤ 4096) : Calls Tryd.prog 36 #[.int .i64 n] w fun e w' => e = .returned (.int .i64 (n / 64)) ∧ w = w' := by
  have e : (n + 262144) / 64 - 4096 = n / 64 := by omega
  rw [← e]
  clear e
  go_enter Tryd.func36, Tryd.ntmps36
  go_wp2
  go_ret
  exact ⟨rfl, rfl⟩
theorem take_snoc_pt (C : List S30) (j : Nat) (h : j < C.length) : C.take (j + 1) = C.take j ++ [C.getD j z30] := by
  rw [List.take_succ_eq_append_getElem h, List.getD_eq_getElem?_getD, List.getElem?_eq_getElem h]; rfl
set_option maxRecDepth 100000 in
set_option maxHeartbeats 40000000 in
theorem fillR_any (A : Option Addr) (cap : Nat) (l : List (List S30)) (w : World) (hC : Kd.C (Kd.slice 30 k30) w A l.length l) (hl : l.length ≤ 4) (hm : ∀ c ∈ l, c.length ≤ 1000) :
    Calls Tryd.prog 17 #[.slice A l.length cap] w fun e w' => ∃ v, e = .returned (.tuple #[.agg #[.int .i64 (fillB l).1.L, .int .i64 (fillB l).1.T, .int .i64 (fillB l).1.W, .int .i64 (fillB l).1.H, v], .int .i64 (fillB l).2]) ∧ Kd.R (Kd.int .u64) 59 w' w.heap.size (fun _ => True) v (fillB l).1.rows ∧ Below w.heap.size w w' := by
  have hu36 := Tryd.underlying36
  have HC := Lib.hid hC
  have HLM := Lib.hid hm
  clear hC hm
  go_enter Tryd.func17, Tryd.ntmps17
  go_upto_region 1 with fail
  obtain ⟨w1, gr, hw, hg, BR, HB1, _⟩ := new_box w #[.int .i64 0, .int .i64 0, .int .i64 0, .int .i64 0, .slice none 0 0] 36
  rw [hw, hg]
  have HG := Lib.hid (Nat.le_of_eq hg)
  clear hw hg
  go_wp2_with fail
  refine (allNearR_any l A cap w1 (Kd.C_below HC.out HB1.out)).mono ?_
  rintro e w' ⟨rfl, rfl⟩
  have hnr : nearL l = true ∨ nearL l = false := by cases nearL l <;> simp
  rcases hnr with hnr | hnr
  case inr =>
    have HE : Hid (fillB l = (Bm.zero, 3)) := Lib.hid (by unfold fillB; rw [if_pos hnr])
    rw [hnr]
    clear hnr
    have r0 := BR.out.cell 0
    have r1 := BR.out.cell 1
    have r2 := BR.out.cell 2
    have r3 := BR.out.cell 3
    have r4 := BR.out.cell 4
    simp only [List.getElem?_toArray, List.getElem?_cons_zero, List.getElem?_cons_succ] at r0 r1 r2 r3 r4
    have z0 := BR.out.frozen 0
    have z1 := BR.out.frozen 1
    have z2 := BR.out.frozen 2
    have z3 := BR.out.frozen 3
    have z4 := BR.out.frozen 4
    go_wp2_with fail
    refine bodyPost_ret (res_ct (g := gr) (cs := #[.int .i64 0, .int .i64 0, .int .i64 0, .int .i64 0, .slice none 0 0]) rfl _ _ _ _ rfl (((((BR.out.put 0 _ rfl).put 1 _ rfl).put 2 _ rfl).put 3 _ rfl).put 4 _ rfl) rfl hu36 (by kernel_rfl)) rfl ?_
    rw [HE.out]
    exact ⟨_, rfl, Kd.R_nil _ _ _ _ _, bset (bset (bset (bset (bset HB1.out HG.out 0 _) HG.out 1 _) HG.out 2 _) HG.out 3 _) HG.out 4 _⟩
  have HNR := Lib.hid hnr
  rw [hnr]
  clear hnr
  go_wp2_with fail
  go_loop [4, 5, 6, 7, 8, 9] (fun p4 p5 p6 p7 p8 i => ∃ (k : Nat) (x0 x1 y0 y1 : Int) (fs : Bool), i = .int .i64 k ∧ p4 = .int .i64 x0 ∧ p5 = .int .i64 x1 ∧ p6 = .int .i64 y0 ∧ p7 = .int .i64 y1 ∧ p8 = .bool fs ∧ k ≤ l.length ∧ Hid (St (ptsOf (l.take k)) x0 x1 y0 y1 fs)) (fun _ _ _ _ _ i => l.length - (intOf i).toNat)
  case atStart => exact ⟨0, 0, 0, 0, 0, true, rfl, rfl, rfl, rfl, rfl, rfl, Nat.zero_le _, Lib.hid (.inl ⟨rfl, rfl, rfl, rfl, rfl, rfl⟩)⟩
  case round =>
  obtain ⟨k, x0, x1, y0, y1, fs, rfl, rfl, rfl, rfl, rfl, rfl, hk, HS⟩ := hrel
  by_cases hlt : k < l.length
  · have d1 : decide (k < l.length) = true := decide_eq_true hlt
    obtain ⟨ad, A0, c0, rfl, h1, hc0, h2⟩ := at_L3 (Kd.C_below HC.out HB1.out) (k : Int) (by omega) (by omega)
    rw [Int.toNat_natCast] at h1
    have HPS := Lib.hid (ptsOf_snoc l k hlt)
    rw [show l.getD k [] = rd_L3 l (k : Int) from rfl] at HPS
    have HNC : Hid (∀ p ∈ rd_L3 l (k : Int), nearP p) := Lib.hid (fun p hp => nearL_mem HNR.out _ (getD_in hlt _) p hp)
    generalize rd_L3 l (k : Int) = C at *
    generalize ptsOf (l.take k) = qs at *
    have H2 := Lib.hid h2
    have b0 : (0 : Int) ≤ (k : Int) := by omega
    have b1 : (k : Int) < (l.length : Int) := by omega
    have hmC : C.length ≤ 9223372036854775807 := h2.2.1
    clear h2 hc0
    go_wp2_with fail
    go_loop [4, 5, 6, 7, 8, 10] (fun p4 p5 p6 p7 p8 i => ∃ (j : Nat) (x0 x1 y0 y1 : Int) (fs : Bool), i = .int .i64 j ∧ p4 = .int .i64 x0 ∧ p5 = .int .i64 x1 ∧ p6 = .int .i64 y0 ∧ p7 = .int .i64 y1 ∧ p8 = .bool fs ∧ j ≤ C.length ∧ Hid (St (qs ++ C.take j) x0 x1 y0 y1 fs)) (fun _ _ _ _ _ i => C.length - (intOf i).toNat)
    case atStart => exact ⟨0, _, _, _, _, _, rfl, rfl, rfl, rfl, rfl, rfl, Nat.zero_le _, Lib.hid (by rw [List.take_zero, List.append_nil]; exact HS.out)⟩
    case round =>
      clear HS
      obtain ⟨j, x0, x1, y0, y1, fs, rfl, rfl, rfl, rfl, rfl, rfl, hj, HS⟩ := hrel
      by_cases hjl : j < C.length
      · have d2 : decide (j < C.length) = true := decide_eq_true hjl
        obtain ⟨ap, rfl, p0, p1, p2⟩ := pt_cells H2.out j hjl
        have HTK : Hid (qs ++ C.take (j + 1) = (qs ++ C.take j) ++ [C.getD j z30]) := Lib.hid (by rw [take_snoc_pt C j hjl, List.append_assoc])
        have hnp : nearP (C.getD j z30) := HNC.out _ (getD_in hjl _)
        have HNP := Lib.hid hnp
        generalize qs ++ C.take j = rs at *
        generalize C.getD j z30 = p at *
        obtain ⟨X, Y, f⟩ := p
        unfold nearP near12 at hnp
        dsimp only at p0 p1 p2 hnp
        have hXb : -64 ≤ X / 64 ∧ X / 64 ≤ 64 := by omega
        have hYb : -64 ≤ Y / 64 ∧ Y / 64 ≤ 64 := by omega
        have b2 : (0 : Int) ≤ (j : Int) := by omega
        have b3 : (j : Int) < (C.length : Int) := by omega
        clear p2
        cases fs
        · have HN := Lib.hid (st_more HS.out ⟨X, Y, f⟩)
          dsimp only at HN
          clear HS
          go_wp2_with fail
          refine (downR_any X w1 hnp.1).mono ?_
          rintro e w' ⟨rfl, rfl⟩
          go_wp2_with fail
          refine (downR_any Y w1 hnp.2).mono ?_
          rintro e w' ⟨rfl, rfl⟩
          generalize X / 64 = dx at *
          generalize Y / 64 = dy at *
          go_wp2_with fail
          exact ⟨⟨j + 1, _, _, _, _, _, by go_num, rfl, rfl, rfl, rfl, rfl, by omega, by rw [HTK.out]; exact HN⟩, by simp [intOf]; omega⟩
        · have HN : Hid (St (rs ++ [⟨X, Y, f⟩]) (X / 64) (X / 64) (Y / 64) (Y / 64) false) := Lib.hid (st_first HS.out ⟨X, Y, f⟩ HNP.out)
          clear HS
          go_wp2_with fail
          refine (downR_any X w1 hnp.1).mono ?_
          rintro e w' ⟨rfl, rfl⟩
          go_wp2_with fail
          refine (downR_any Y w1 hnp.2).mono ?_
          rintro e w' ⟨rfl, rfl⟩
          generalize X / 64 = dx at *
          generalize Y / 64 = dy at *
          go_wp2_with fail
          exact ⟨⟨j + 1, dx, dx, dy, dy, false, by go_num, by simp, by simp, by simp, by simp, rfl, by omega, by rw [HTK.out]; exact HN⟩, by simp [intOf]; omega⟩
      · have hjj : j = C.length := by omega
        have d2 : decide (j < C.length) = false := decide_eq_false hjl
        have HN : Hid (St (ptsOf (l.take (k + 1))) x0 x1 y0 y1 fs) := Lib.hid (by rw [HPS.out]; have := HS.out; rw [hjj, List.take_length] at this; exact this)
        clear hjj HS
        go_wp2_with fail
        exact ⟨⟨k + 1, _, _, _, _, _, by go_num, rfl, rfl, rfl, rfl, rfl, by omega, HN⟩, by simp [intOf]; omega⟩
  · have d1 : decide (k < l.length) = false := decide_eq_false hlt
    have hkl : k = l.length := by omega
    rw [hkl, List.take_length] at HS
    obtain ⟨hx, hy, hbig, hfit⟩ := st_end HNR.out HS.out
    have HBG := Lib.hid hbig
    have HFT := Lib.hid hfit
    clear hbig hfit HS hkl
    by_cases hb : 63 < x1 - x0 ∨ 63 < y1 - y0
    · have HE := Lib.hid (HBG.out hb)
      have r0 := BR.out.cell 0
      have r1 := BR.out.cell 1
      have r2 := BR.out.cell 2
      have r3 := BR.out.cell 3
      have r4 := BR.out.cell 4
      simp only [List.getElem?_toArray, List.getElem?_cons_zero, List.getElem?_cons_succ] at r0 r1 r2 r3 r4
      have z0 := BR.out.frozen 0
      have z1 := BR.out.frozen 1
      have z2 := BR.out.frozen 2
      have z3 := BR.out.frozen 3
      have z4 := BR.out.frozen 4
      by_cases hb1 : 63 < x1 - x0
      · clear hb
        go_wp2_with fail
        refine bodyPost_ret (res_ct (g := gr) (cs := #[.int .i64 0, .int .i64 0, .int .i64 0, .int .i64 0, .slice none 0 0]) rfl _ _ _ _ rfl (((((BR.out.put 0 _ rfl).put 1 _ rfl).put 2 _ rfl).put 3 _ rfl).put 4 _ rfl) rfl hu36 (by kernel_rfl)) rfl ?_
        rw [HE.out]
        exact ⟨_, rfl, Kd.R_nil _ _ _ _ _, bset (bset (bset (bset (bset HB1.out HG.out 0 _) HG.out 1 _) HG.out 2 _) HG.out 3 _) HG.out 4 _⟩
      · have hb2 : 63 < y1 - y0 := by omega
        clear hb
        go_wp2_with fail
        refine bodyPost_ret (res_ct (g := gr) (cs := #[.int .i64 0, .int .i64 0, .int .i64 0, .int .i64 0, .slice none 0 0]) rfl _ _ _ _ rfl (((((BR.out.put 0 _ rfl).put 1 _ rfl).put 2 _ rfl).put 3 _ rfl).put 4 _ rfl) rfl hu36 (by kernel_rfl)) rfl ?_
        rw [HE.out]
        exact ⟨_, rfl, Kd.R_nil _ _ _ _ _, bset (bset (bset (bset (bset HB1.out HG.out 0 _) HG.out 1 _) HG.out 2 _) HG.out 3 _) HG.out 4 _⟩
    · have hbx : x1 - x0 ≤ 63 := by omega
      have hby : y1 - y0 ≤ 63 := by omega
      clear hb
      obtain ⟨wN, hwN⟩ : ∃ wN : Nat, x1 - x0 + 1 = wN := ⟨(x1 - x0 + 1).toNat, by omega⟩
      obtain ⟨hN, hhN⟩ : ∃ hN : Nat, y1 - y0 + 1 = hN := ⟨(y1 - y0 + 1).toNat, by omega⟩
      have hw64 : wN ≤ 64 := by omega
      have hh64 : hN ≤ 64 := by omega
      obtain ⟨fe, fo, fu⟩ := HFT.out wN hN hwN hhN hw64 hh64
      obtain ⟨rows, hrows⟩ : ∃ rows, rowsN (allP l) x0 y0 wN hN = rows := ⟨_, rfl⟩
      rw [hrows] at fe fo fu
      have HE := Lib.hid fe
      have HO := Lib.hid fo
      have HU := Lib.hid fu
      have HROWS := Lib.hid hrows
      clear fe fo fu hrows HBG HFT hlt hk
      go_upto_region 23 with fail
      clear d1
      have hwa := Int.le_of_eq hwN
      have hwb := Int.le_of_eq hwN.symm
      have hha := Int.le_of_eq hhN
      have hhb := Int.le_of_eq hhN.symm
      clear hwN hhN
      obtain ⟨w2, gb, hw, hg, B0, HB0, _⟩ := new_box w1 #[.int .i64 x0, .int .i64 y0, .int .i64 (wN : Int), .int .i64 (hN : Int), .slice none 0 0] 36
      rw [hw, hg]
      have HB2 := Lib.hid (bthen' HB1.out HB0.out)
      have HG2 := Lib.hid (show w1.heap.size ≤ gb by omega)
      have BR2 := Lib.hid (BR.out.below HB0.out)
      clear hw hg
      go_wp2_with fail
      go_loopw [14] (fun y wr => ∃ (k : Nat) (v : Value), k ≤ hN ∧ y = .int .i64 (y0 + k) ∧ Hid (Blk wr gb #[.int .i64 x0, .int .i64 y0, .int .i64 (wN : Int), .int .i64 (hN : Int), v] 36) ∧ Hid (Kd.R (Kd.int .u64) 59 wr w1.heap.size (fun _ => True) v (rows.take k)) ∧ Hid (Below w1.heap.size w1 wr)) (fun y _ => (y1 + 1 - intOf y).toNat)
      case atStart => exact ⟨0, _, Nat.zero_le _, by simp, B0, Lib.hid (Kd.R_nil _ _ _ _ _), HB0⟩
      case round =>
      obtain ⟨k, v, hk, rfl, BK, HV, HBK⟩ := hrel
      by_cases hlt : y0 + k ≤ y1
      · have hk1 : k < hN := by omega
        have hky : (k : Int) ≤ y1 - y0 := by omega
        go_upto_region 27 with fail
        generalize hwr : wr = wo at *
        have HWO := Lib.hid hwr
        clear hwr
        go_wp2_with fail
        go_loopw [15, 16] (fun r x wr => ∃ m : Nat, m ≤ wN ∧ x = .int .i64 (x0 + m) ∧ r = .int .u64 ((rowN (allP l) x0 (y0 + k) m : Nat) : Int) ∧ Hid (Below wo.heap.size wo wr)) (fun _ x _ => (x1 + 1 - intOf x).toNat)
        case atStart => exact ⟨0, Nat.zero_le _, by simp, rfl, Lib.hid (Below.refl _ _)⟩
        case round =>
        obtain ⟨m, hm, rfl, rfl, HBm⟩ := hrel
        by_cases hltm : x0 + m ≤ x1
        · have hm1 : m < wN := by omega
          have hmx : (m : Int) ≤ x1 - x0 := by omega
          have hrow : rowN (allP l) x0 (y0 + k) (m + 1) = if wind (allP l) (64 * (x0 + m) + 32) (64 * (y0 + k) + 32) ≠ 0 then rowN (allP l) x0 (y0 + k) m ||| 2 ^ m else rowN (allP l) x0 (y0 + k) m := rfl
          have hrl := rowN_lt (allP l) x0 (y0 + k) m
          have hrl2 : 2 ^ m ≤ 2 ^ 63 := Nat.pow_le_pow_right (by omega) (by omega)
          have hwd := windingR_any l A cap (64 * (x0 + m) + 32) (64 * (y0 + k) + 32) wr (Kd.C_below HC.out (bthen' HB1.out (bthen' HBK.out HBm.out))) hl HLM.out (nearC_M HNR.out) (by omega) (by omega)
          rw [windA_eq] at hwd
          generalize wind (allP l) (64 * (x0 + m) + 32) (64 * (y0 + k) + 32) = v0 at hwd hrow
          generalize rowN (allP l) x0 (y0 + k) m = r0 at *
          have HROW := Lib.hid hrow
          have HWD := Lib.hid hwd
          have HRL := Lib.hid hrl
          have HRL2 := Lib.hid hrl2
          clear hrow hwd hrl hrl2
          go_wp2_with fail
          refine HWD.out.mono ?_
          rintro e w12 ⟨rfl, hb⟩
          have HBn := Lib.hid (bthen' HBm.out hb)
          clear hb HWD
          by_cases hv : v0 = 0
          · subst hv
            have HR2 : Hid (rowN (allP l) x0 (y0 + k) (m + 1) = r0) := Lib.hid (by rw [HROW.out]; simp)
            go_wp2_with fail
            exact ⟨⟨m + 1, by omega, by go_num, by rw [HR2.out], HBn⟩, by simp [intOf]; omega⟩
          · have HR2 : Hid (rowN (allP l) x0 (y0 + k) (m + 1) = r0 ||| 2 ^ m) := Lib.hid (by rw [HROW.out, if_pos hv])
            have hsh : (x0 + (m : Int)) - x0 = m := by omega
            go_upto_region 31 with fail
            go_wp2_with fail
            exact ⟨⟨m + 1, by omega, by go_num, by rw [HR2.out, or_bit r0 m HRL.out HRL2.out], HBn⟩, by simp [intOf]; omega⟩
        obtain rfl : m = wN := by omega
        have BKm := Lib.hid (BK.out.below HBm.out)
        have HVm := Lib.hid (Kd.R_below HV.out HBm.out)
        have HBx := Lib.hid (bthen' HBK.out HBm.out)
        obtain ⟨Av, cv, rfl⟩ := Kd.R_slice HV.out
        have htk : rows.take (k + 1) = rows.take k ++ [((rowN (allP l) x0 (y0 + k) m : Nat) : Int)] := by
          rw [← HROWS.out]
          exact rowsN_at (allP l) x0 y0 m hN k hk1
        obtain ⟨rv, hrv⟩ : ∃ rv, ((rowN (allP l) x0 (y0 + k) m : Nat) : Int) = rv := ⟨_, rfl⟩
        rw [hrv] at htk ⊢
        obtain ⟨rs, hrs⟩ : ∃ rs, rows.take k = rs := ⟨_, rfl⟩
        rw [hrs] at HVm htk BKm
        have hrl : rs.length ≤ 64 := by rw [← hrs, List.length_take]; omega
        have HTK := Lib.hid htk
        have g4 := BKm.out.cell 4
        have q4 := BKm.out.frozen 4
        simp only [List.getElem?_toArray, List.getElem?_cons_zero, List.getElem?_cons_succ] at g4
        have hne4 := Kd.R_ne HVm.out BKm.out (by decide : 59 ≠ 36)
        have HNE := Lib.hid hne4
        clear hne4 hrs htk hrv hltm
        go_upto_region 32 with fail
        go_wp2_with (at_builtin; go_loud (refine Kd.R_append (Kd.int .u64) (W := wr) (w0 := w1) w1.heap.size rfl (.tmp 121) (.tmp 123) 34 59 (.int .u64 0) 8 rfl Tryd.underlying34 info59 rfl (by decide) (by omega) (.slice Av rs.length cv) rs rv [.int .u64 rv] (fun _ => True) (fun _ => False) rfl rfl rfl (fun _ h => h.elim) (fun _ _ => trivial) HVm.out HBx.out HBx.out.size (by omega) ?_); intro v1 w13 hR1 hB1 hG1 hat1; obtain ⟨A1, c1, rfl⟩ := Kd.R_slice hR1; have bk1 : Blk w13 gb #[.int .i64 x0, .int .i64 y0, .int .i64 (m : Int), .int .i64 (hN : Int), .slice Av rs.length cv] 36 := (hG1.block gb BKm.out.lt HNE.out).trans BKm.out; have j4 := bk1.cell 4; have y4 := bk1.frozen 4; simp only [List.getElem?_toArray, List.getElem?_cons_zero, List.getElem?_cons_succ] at j4; have BK1 := Lib.hid bk1; have HR1 := Lib.hid hR1; have HB1' := Lib.hid hB1; clear bk1 hR1 hB1 hG1 hat1 g4 q4)
        have h4 : Kd.R (Kd.int .u64) 59 w13 w1.heap.size (fun _ => True) (.slice A1 (rs.length + 1) c1) (rs ++ [rv]) := by
          have h := HR1.out
          rw [List.length_append, List.length_singleton] at h
          exact h
        have H4 := Kd.R_set h4 BK1.out (by intro q hq; simp [Kd.int, Kd.scalar] at hq; omega) 4 (.slice A1 (rs.length + 1) c1)
        have HK4 := BK1.out.put 4 (.slice A1 (rs.length + 1) c1) rfl
        have HB4' := bset HB1'.out HG2.out 4 (.slice A1 (rs.length + 1) c1)
        exact ⟨⟨k + 1, .slice A1 (rs.length + 1) c1, by omega, by go_num, Lib.hid HK4, Lib.hid (by rw [HTK.out]; exact H4), Lib.hid HB4'⟩, by simp [intOf]; omega⟩
      obtain rfl : k = hN := by omega
      have hlr : rows.length = k := by rw [← HROWS.out]; simp [rowsN]
      rw [List.take_of_length_le (by omega)] at HV
      obtain ⟨Av, cv, rfl⟩ := Kd.R_slice HV.out
      have BRk := Lib.hid (BR.out.below HBK.out)
      have HBz := Lib.hid (bthen' HB1.out HBK.out)
      have HVz := Lib.hid (Kd.R_reads' HV.out).2.2
      have g0 := BK.out.cell 0
      have g1 := BK.out.cell 1
      have g2 := BK.out.cell 2
      have g3 := BK.out.cell 3
      have g4 := BK.out.cell 4
      simp only [List.getElem?_toArray, List.getElem?_cons_zero, List.getElem?_cons_succ] at g0 g1 g2 g3 g4
      subst hlr
      clear hlt HROWS
      go_wp2_with fail
      refine (trimR_any x0 y0 wN Av cv rows wr HVz.out HU.out HO.out).mono ?_
      rintro e w14 ⟨vt, rfl, hRt, hb⟩
      have HRT := Lib.hid (Kd.R_lower hRt HBz.out.size)
      have BRz := Lib.hid (BRk.out.below hb)
      have HBe := Lib.hid (bthen' HBz.out hb)
      clear hRt hb g0 g1 g2 g3 g4
      obtain ⟨⟨tL, tT, tW, tH, tr⟩, htb⟩ : ∃ b, trimB ⟨x0, y0, wN, rows.length, rows⟩ = b := ⟨_, rfl⟩
      rw [htb] at HRT HE ⊢
      dsimp only at HRT ⊢
      obtain ⟨At, ct, rfl⟩ := Kd.R_slice HRT.out
      have r0 := BRz.out.cell 0
      have r1 := BRz.out.cell 1
      have r2 := BRz.out.cell 2
      have r3 := BRz.out.cell 3
      have r4 := BRz.out.cell 4
      simp only [List.getElem?_toArray, List.getElem?_cons_zero, List.getElem?_cons_succ] at r0 r1 r2 r3 r4
      have z0 := BRz.out.frozen 0
      have z1 := BRz.out.frozen 1
      have z2 := BRz.out.frozen 2
      have z3 := BRz.out.frozen 3
      have z4 := BRz.out.frozen 4
      have HTB := Lib.hid htb
      clear htb
      go_wp2_with fail
      refine bodyPost_ret (res_ct (g := gr) (cs := #[.int .i64 tL, .int .i64 tT, .int .i64 tW, .int .i64 tH, .slice At tr.length ct]) rfl _ _ _ _ rfl (((((BRz.out.put 0 _ rfl).put 1 _ rfl).put 2 _ rfl).put 3 _ rfl).put 4 _ rfl) rfl hu36 (by kernel_rfl)) rfl ?_
      rw [HE.out]
      dsimp only
      refine ⟨_, rfl, ?_, bset (bset (bset (bset (bset HBe.out HG.out 0 _) HG.out 1 _) HG.out 2 _) HG.out 3 _) HG.out 4 _⟩
      exact R_put5 HRT.out BRz.out (by decide) (.int .i64 tL) (.int .i64 tT) (.int .i64 tW) (.int .i64 tH) (.slice At tr.length ct)
end Go.Proofs.YtleljodcdbhifaaDoor
/- The first contours and points of an outline: the law's few. -/
set_option linter.unusedVariables false
set_option linter.unusedSimpArgs false
namespace Go.Proofs.YtleljodcdbhifaaDoor
open Go.RowKit Go.Proofs.YtleljodcdbhifaaDoorW.PrintWords Go.Proofs.YtleljodcdbhifaaDoorW.PrintLast Go.Proofs.YtleljodcdbhifaaDoorW.PrintMore Hy
attribute [local go_sem ↓] Go.wp_at_zero Go.wp_at_succ
attribute [local go_sem] max2_int min2_int max_two min_two
def scFew.T5 : Bool × List (List Nat × List Nat) := (true, [([], []), ([], []), ([], []), ([1, 2], [1, 2]), ([3], [3]), ([], []), ([], []), ([5, 6], [5, 6]), ([7], [7]), ([8], [8]), ([9], [9]), ([4, 10], [4, 10]), ([11], [11]), ([0, 12], [0, 12]), ([13, 13, 0, 1, 2, 3, 4, 5, 6, 7, 8, 9, 10, 11, 12, 13], [0, 13])])
def scFew.B5 : List Nat := [0, 0, 0, 6, 14, 0, 0, 96, 224, 480, 992, 2046, 4094, 8191, 16383]
theorem scFew.tab5 : rtab .any (opsOf Tryd.f13 5) = scFew.T5 := by kernel_rfl
theorem scFew.bits5 : waitsOk scFew.T5.2 scFew.B5 = true := by kernel_rfl
/-- a slice as it lies in a cell -/
structure SV where
  a : Option Addr
  n : Nat
  c : Nat
def SV.enc (s : SV) : Value := .slice s.a s.n s.c
def kSV : Kd SV := Kd.scalar SV.enc (fun _ => rfl)
/-- the slices are read as these rows -/
def Views (w : World) (svs : List SV) (rows : List (List S30)) : Prop := svs.length = rows.length ∧ ∀ (j : Nat) (s : SV) (r : List S30), svs[j]? = some s → rows[j]? = some r → s.n = r.length ∧ r.length ≤ s.c ∧ Kd.C k30 w s.a r.length r
theorem Views.nil (w : World) : Views w [] [] := ⟨rfl, fun j s r h => by simp at h⟩
theorem Views.snoc {w : World} {svs : List SV} {rows : List (List S30)} (h : Views w svs rows) (s : SV) (r : List S30) (h1 : s.n = r.length) (h2 : r.length ≤ s.c) (h3 : Kd.C k30 w s.a r.length r) : Views w (svs ++ [s]) (rows ++ [r]) := by
  refine ⟨by rw [List.length_append, List.length_append, h.1]; rfl, fun j s' r' hs hr => ?_⟩
  rcases Nat.lt_or_ge j svs.length with hj | hj
  · rw [List.getElem?_append_left hj] at hs
    rw [List.getElem?_append_left (by rw [← h.1]; exact hj)] at hr
    exact h.2 j s' r' hs hr
  · rw [List.getElem?_append_right hj] at hs
    rw [List.getElem?_append_right (by rw [← h.1]; exact hj), ← h.1] at hr
    cases he : j - svs.length with
    | zero =>
      rw [he] at hs hr
      obtain rfl : s = s' := by simpa using hs
      obtain rfl : r = r' := by simpa using hr
      exact ⟨h1, h2, h3⟩
    | succ n => rw [he] at hs; simp at hs
theorem C_views {w w' : World} {base : Nat} {svs : List SV} {rows : List (List S30)} {A : Option Addr} {n c : Nat} {t : Nat} {e : Nat} (hR : Kd.R kSV t w' base (fun _ => True) (.slice A n c) svs) (hV : Views w svs rows) (hb : Below w.heap.size w w') (hl : rows.length ≤ 9223372036854775807) : n = rows.length ∧ n ≤ c ∧ Kd.C (Kd.slice e k30) w' A rows.length rows := by
  obtain ⟨h1, h2, h3⟩ := Kd.R_reads' hR
  have hn : n = rows.length := by rw [h1, hV.1]
  refine ⟨hn, h2, rfl, hl, fun h0 => ?_⟩
  obtain ⟨_, _, h4⟩ := h3
  obtain ⟨ad, hA, h5⟩ := h4 (by have := hV.1; omega)
  refine ⟨ad, hA, fun j r hr => ?_⟩
  have hj : j < svs.length := by
    rw [hV.1]
    exact (List.getElem?_eq_some_iff.1 hr).1
  have hs : svs[j]? = some svs[j] := List.getElem?_eq_getElem hj
  obtain ⟨cs, hc1, hc2, hc3⟩ := h5 j _ hs
  obtain ⟨g1, g2, g3⟩ := hV.2 j _ r hs hr
  have hc2' : cs = [SV.enc svs[j]] := hc2
  refine ⟨cs, hc1, ?_, hc3⟩
  refine ⟨svs[j].a, svs[j].c, ?_, g2, Kd.C_below g3 hb⟩
  rw [hc2', SV.enc, g1]
theorem C_take {w : World} {A : Option Addr} {l : List S30} (h : Kd.C k30 w A l.length l) (n : Nat) : Kd.C k30 w A (l.take n).length (l.take n) := by
  obtain ⟨_, h2, h3⟩ := h
  refine ⟨rfl, by rw [List.length_take]; omega, fun h0 => ?_⟩
  rw [List.length_take] at h0
  obtain ⟨ad, hA, h4⟩ := h3 (by omega)
  refine ⟨ad, hA, fun j p hp => h4 j p ?_⟩
  rw [List.getElem?_take] at hp
  split at hp
  · exact hp
  · cases hp
def fewL (l : List (List S30)) : List (List S30) := (l.take 4).map (·.take 12)
theorem few_step (l : List (List S30)) (k : Nat) (h : k < l.length) : (l.take (k + 1)).map (·.take 12) = (l.take k).map (·.take 12) ++ [(l.getD k []).take 12] := by
  rw [List.take_succ_eq_append_getElem h, List.map_append, List.getD_eq_getElem?_getD, List.getElem?_eq_getElem h]; rfl
set_option maxRecDepth 100000 in
set_option maxHeartbeats 4000000 in
theorem few_any (l : List (List S30)) (A : Option Addr) (c : Nat) (w : World) (hC : Kd.C (Kd.slice 30 k30) w A l.length l) :
    Calls Tryd.prog 13 #[.slice A l.length c] w fun e w' => ∃ A' c', e = .returned (.slice A' (fewL l).length c') ∧ (fewL l).length ≤ c' ∧ Kd.C (Kd.slice 30 k30) w' A' (fewL l).length (fewL l) ∧ Below w.heap.size w w' := by
  have hmx : l.length ≤ 9223372036854775807 := hC.2.1
  have HC := Lib.hid hC
  clear hC
  go_enter Tryd.func13, Tryd.ntmps13
  go_wp2_with fail
  go_loopw [3, 4] (fun v i wr => ∃ (k : Nat) (svs : List SV), i = .int .i64 k ∧ k ≤ l.length ∧ k ≤ 4 ∧ svs.length = k ∧ Hid (Below w.heap.size w wr) ∧ Hid (Kd.R kSV 28 wr w.heap.size (fun _ => True) v svs) ∧ Hid (Views w svs ((l.take k).map (·.take 12)))) (fun _ i _ => l.length - (intOf i).toNat)
  case atStart => exact ⟨0, [], rfl, Nat.zero_le _, Nat.zero_le _, rfl, Lib.hid (Below.refl _ _), Lib.hid (Kd.R_nil _ _ _ _ _), Lib.hid (Views.nil w)⟩
  case round =>
    obtain ⟨k, svs, rfl, hk, hk4, hsl, HBr, HVr, HW⟩ := hrel
    obtain ⟨Ax, cx, rfl⟩ := Kd.R_slice HVr.out
    by_cases hlt : k < l.length ∧ k < 4
    · have d1 : decide (k < l.length) = true := decide_eq_true hlt.1
      have d2 : decide ((k : Int) < 4) = true := decide_eq_true (by omega)
      obtain ⟨ad, A0, c0, rfl, h1, hc0, h2⟩ := at_L3 HC.out (k : Int) (by omega) (by omega)
      rw [Int.toNat_natCast] at h1
      have HST := Lib.hid (few_step l k hlt.1)
      rw [show l.getD k [] = rd_L3 l (k : Int) from rfl] at HST
      generalize rd_L3 l (k : Int) = C at *
      obtain ⟨n, hn⟩ : ∃ n, (C.take 12).length = n := ⟨_, rfl⟩
      have hn' : n = min 12 C.length := by rw [← hn, List.length_take]
      have hmC : C.length ≤ 9223372036854775807 := h2.2.1
      have HVW := Lib.hid (HW.out.snoc ⟨A0, n, c0⟩ (C.take 12) hn.symm (by show (C.take 12).length ≤ c0; omega) (C_take h2 12))
      have HT := Lib.hid HST.out
      have H1 := Aside0.mk h1
      have Y0 := Aside0.mk (show (0 : Int) ≤ (k : Int) by omega)
      have Y1 := Aside0.mk (show (k : Int) < (l.length : Int) by omega)
      have YM := Aside0.mk (show (if (12 : Int) < (C.length : Int) then (12 : Int) else (C.length : Int)) = (n : Int) by split <;> omega)
      have Y3 := Aside0.mk (show (0 : Int) ≤ (n : Int) by omega)
      have Y4 := Aside0.mk (show (n : Int) ≤ (c0 : Int) by omega)
      have HL := Aside0.mk (show svs.length ≤ 4 by omega)
      have HK := Lib.hid hlt
      have HSL := Lib.hid hsl
      clear h1 h2 hc0 hn hn' hmC HST hlt hk hk4 hsl
      go_upto_region 5 with fail
      clear d1 d2
      refine start_ (n := 15) (S := fun w' => True) (ds := []) #[false, false, false, false, false, false, false, false, false, false, false, false, false, false, false] (by kernel_rfl) rfl rfl trivial (fun hHeld => ?_)
      refine with_tabW scFew.tab5 scFew.bits5 (fun HT_ HW_ => ?_)
      have HB : Aside0 (Below w.heap.size w wr.drew) := ⟨bdrew HBr.out⟩
      have RV : Aside0 (Kd.R kSV 28 wr.drew w.heap.size (fun _ => True) (.slice Ax svs.length cx) svs) := ⟨Kd.R_below HVr.out (below_drew (Below.refl _ _))⟩
      generalize hwd : wr.drew = w1' at *
      clear hwd
      refine inv_at [0, 1, 2, 3, 4, 5, 6, 7, 8, 9, 10, 11, 12, 13, 14] (fun a0_ b a w' => ∃ (ge : Nat) (v1 : Value) (m12_ : Value) (m14_ : Value), a = putSel a0_ b [(0, 15, .slice Ax svs.length cx), (1, 16, .slice (some ad) l.length c), (2, 17, .int .i64 k), (3, 18, .pointer (some (ad.add k))), (4, 19, .slice A0 C.length c0), (5, 20, .slice (some ad) l.length c), (6, 21, .int .i64 k), (7, 22, .pointer (some (ad.add k))), (8, 23, .slice A0 C.length c0), (9, 24, .int .i64 C.length), (10, 25, .int .i64 n), (11, 26, .slice A0 n c0), (12, 27, m12_), (13, 28, v1), (14, 3, m14_)] ∧ (Below w.heap.size w w') ∧ (b 13 = false → Kd.R kSV 28 w' w.heap.size (fun _ => True) (.slice Ax svs.length cx) svs) ∧ (b 12 = true → b 13 = false → Blk w' ge #[.slice A0 n c0] 28) ∧ (b 13 = true → Kd.R kSV 28 w' w.heap.size (fun _ => True) v1 (svs ++ [⟨A0, n, c0⟩])) ∧ (b 12 = true → (m12_ : Value) = .slice (some ⟨ge, 0, none⟩) 1 1) ∧ (b 14 = true → (m14_ : Value) = v1)) HT_.out HW_.out (by kernel_rfl) (by kernel_rfl) ?_ ?_ ?_
      · exact ⟨0, undef, .bool false, .bool false, by simp only [putSel, Bool.false_eq_true, if_false], HB.out, fun _ => RV.out, fun h_ => absurd h_ (by decide), fun h_ => absurd h_ (by decide), fun h_ => absurd h_ (by decide), fun h_ => absurd h_ (by decide)⟩
      · skip
        clear HB RV
        refine steps_cons ?_ ?_
        · rintro b a w' ⟨ge, v1, m12_, m14_, ha, Q_HB, Q_RV, Q_EB, Q_R1, Q_X12_, Q_X14_⟩ hb_ hon hoff
          refine ⟨_, rfl, fun K hK => ?_⟩
          have e3 : a.tmps[3]? = some (.slice Ax svs.length cx) := by rw [ha]; exact (putSel_not (hoff 14 (by kernel_rfl)) rfl).trans rfl
          replace ha := Aside0.mk ha
          have HB := Aside0.mk Q_HB
          have RV := Aside0.mk (Q_RV (hoff 13 (by kernel_rfl)))
          refine value_ (w1 := w') (v := .slice Ax svs.length cx) (by rfl) rfl ?_ ?_
          · go_simp
            (try simp only [i64_w])
            try rfl
          refine hK.out _ _ ⟨ge, v1, m12_, m14_, (by rw [ha.out]; exact putSel_upk 0 hb_ rfl rfl rfl), Q_HB, Q_RV, Q_EB, fun h0_ => absurd ((hoff 13 (by kernel_rfl)).symm.trans h0_) (by decide), Q_X12_, fun h0_ => absurd ((hoff 14 (by kernel_rfl)).symm.trans h0_) (by decide)⟩
        refine steps_cons ?_ ?_
        · rintro b a w' ⟨ge, v1, m12_, m14_, ha, Q_HB, Q_RV, Q_EB, Q_R1, Q_X12_, Q_X14_⟩ hb_ hon hoff
          refine ⟨_, rfl, fun K hK => ?_⟩
          have e0 : a.tmps[0]? = some (.slice (some ad) l.length c) := by rw [ha]; exact (putSel_off rfl).trans rfl
          replace ha := Aside0.mk ha
          have HB := Aside0.mk Q_HB
          have RV := Aside0.mk (Q_RV (hoff 13 (by kernel_rfl)))
          refine value_ (w1 := w') (v := .slice (some ad) l.length c) (by rfl) rfl ?_ ?_
          · go_simp
            (try simp only [i64_w])
            try rfl
          refine hK.out _ _ ⟨ge, v1, m12_, m14_, (by rw [ha.out]; exact putSel_upk 1 hb_ rfl rfl rfl), Q_HB, Q_RV, fun h0_ _ => absurd ((hoff 12 (by kernel_rfl)).symm.trans h0_) (by decide), fun h0_ => absurd ((hoff 13 (by kernel_rfl)).symm.trans h0_) (by decide), fun h0_ => absurd ((hoff 12 (by kernel_rfl)).symm.trans h0_) (by decide), fun h0_ => absurd ((hoff 14 (by kernel_rfl)).symm.trans h0_) (by decide)⟩
        refine steps_cons ?_ ?_
        · rintro b a w' ⟨ge, v1, m12_, m14_, ha, Q_HB, Q_RV, Q_EB, Q_R1, Q_X12_, Q_X14_⟩ hb_ hon hoff
          refine ⟨_, rfl, fun K hK => ?_⟩
          have e4 : a.tmps[4]? = some (.int .i64 k) := by rw [ha]; exact (putSel_off rfl).trans rfl
          replace ha := Aside0.mk ha
          have HB := Aside0.mk Q_HB
          have RV := Aside0.mk (Q_RV (hoff 13 (by kernel_rfl)))
          refine value_ (w1 := w') (v := .int .i64 k) (by rfl) rfl ?_ ?_
          · go_simp
            (try simp only [i64_w])
            try rfl
          refine hK.out _ _ ⟨ge, v1, m12_, m14_, (by rw [ha.out]; exact putSel_upk 2 hb_ rfl rfl rfl), Q_HB, Q_RV, fun h0_ _ => absurd ((hoff 12 (by kernel_rfl)).symm.trans h0_) (by decide), fun h0_ => absurd ((hoff 13 (by kernel_rfl)).symm.trans h0_) (by decide), fun h0_ => absurd ((hoff 12 (by kernel_rfl)).symm.trans h0_) (by decide), fun h0_ => absurd ((hoff 14 (by kernel_rfl)).symm.trans h0_) (by decide)⟩
        refine steps_cons ?_ ?_
        · rintro b a w' ⟨ge, v1, m12_, m14_, ha, Q_HB, Q_RV, Q_EB, Q_R1, Q_X12_, Q_X14_⟩ hb_ hon hoff
          refine ⟨_, rfl, fun K hK => ?_⟩
          have e16 : a.tmps[16]? = some (.slice (some ad) l.length c) := by rw [ha]; exact putSel_on (e := (1, 16, .slice (some ad) l.length c)) 1 rfl rfl (hon 1 (by kernel_rfl)) rfl
          have e17 : a.tmps[17]? = some (.int .i64 k) := by rw [ha]; exact putSel_on (e := (2, 17, .int .i64 k)) 2 rfl rfl (hon 2 (by kernel_rfl)) rfl
          replace ha := Aside0.mk ha
          have HB := Aside0.mk Q_HB
          have RV := Aside0.mk (Q_RV (hoff 13 (by kernel_rfl)))
          have y0 := Y0.out
          have y1 := Y1.out
          refine value_ (w1 := w') (v := .pointer (some (ad.add k))) (by rfl) rfl ?_ ?_
          · go_simp
            (try simp only [i64_w])
            try rfl
          refine hK.out _ _ ⟨ge, v1, m12_, m14_, (by rw [ha.out]; exact putSel_upk 3 hb_ rfl rfl rfl), Q_HB, Q_RV, fun h0_ _ => absurd ((hoff 12 (by kernel_rfl)).symm.trans h0_) (by decide), fun h0_ => absurd ((hoff 13 (by kernel_rfl)).symm.trans h0_) (by decide), fun h0_ => absurd ((hoff 12 (by kernel_rfl)).symm.trans h0_) (by decide), fun h0_ => absurd ((hoff 14 (by kernel_rfl)).symm.trans h0_) (by decide)⟩
        refine steps_cons ?_ ?_
        · rintro b a w' ⟨ge, v1, m12_, m14_, ha, Q_HB, Q_RV, Q_EB, Q_R1, Q_X12_, Q_X14_⟩ hb_ hon hoff
          refine ⟨_, rfl, fun K hK => ?_⟩
          have e18 : a.tmps[18]? = some (.pointer (some (ad.add k))) := by rw [ha]; exact putSel_on (e := (3, 18, .pointer (some (ad.add k)))) 3 rfl rfl (hon 3 (by kernel_rfl)) rfl
          replace ha := Aside0.mk ha
          have HB := Aside0.mk Q_HB
          have RV := Aside0.mk (Q_RV (hoff 13 (by kernel_rfl)))
          have z1 : w'.cell? (ad.add k) = some (.slice A0 C.length c0) := pw_cell_below HB.out H1.out
          refine value_ (w1 := w') (v := .slice A0 C.length c0) (by rfl) rfl ?_ ?_
          · go_simp
            (try simp only [i64_w])
            try rfl
          refine hK.out _ _ ⟨ge, v1, m12_, m14_, (by rw [ha.out]; exact putSel_upk 4 hb_ rfl rfl rfl), Q_HB, Q_RV, fun h0_ _ => absurd ((hoff 12 (by kernel_rfl)).symm.trans h0_) (by decide), fun h0_ => absurd ((hoff 13 (by kernel_rfl)).symm.trans h0_) (by decide), fun h0_ => absurd ((hoff 12 (by kernel_rfl)).symm.trans h0_) (by decide), fun h0_ => absurd ((hoff 14 (by kernel_rfl)).symm.trans h0_) (by decide)⟩
        refine steps_cons ?_ ?_
        · rintro b a w' ⟨ge, v1, m12_, m14_, ha, Q_HB, Q_RV, Q_EB, Q_R1, Q_X12_, Q_X14_⟩ hb_ hon hoff
          refine ⟨_, rfl, fun K hK => ?_⟩
          have e0 : a.tmps[0]? = some (.slice (some ad) l.length c) := by rw [ha]; exact (putSel_off rfl).trans rfl
          replace ha := Aside0.mk ha
          have HB := Aside0.mk Q_HB
          have RV := Aside0.mk (Q_RV (hoff 13 (by kernel_rfl)))
          refine value_ (w1 := w') (v := .slice (some ad) l.length c) (by rfl) rfl ?_ ?_
          · go_simp
            (try simp only [i64_w])
            try rfl
          refine hK.out _ _ ⟨ge, v1, m12_, m14_, (by rw [ha.out]; exact putSel_upk 5 hb_ rfl rfl rfl), Q_HB, Q_RV, fun h0_ _ => absurd ((hoff 12 (by kernel_rfl)).symm.trans h0_) (by decide), fun h0_ => absurd ((hoff 13 (by kernel_rfl)).symm.trans h0_) (by decide), fun h0_ => absurd ((hoff 12 (by kernel_rfl)).symm.trans h0_) (by decide), fun h0_ => absurd ((hoff 14 (by kernel_rfl)).symm.trans h0_) (by decide)⟩
        refine steps_cons ?_ ?_
        · rintro b a w' ⟨ge, v1, m12_, m14_, ha, Q_HB, Q_RV, Q_EB, Q_R1, Q_X12_, Q_X14_⟩ hb_ hon hoff
          refine ⟨_, rfl, fun K hK => ?_⟩
          have e4 : a.tmps[4]? = some (.int .i64 k) := by rw [ha]; exact (putSel_off rfl).trans rfl
          replace ha := Aside0.mk ha
          have HB := Aside0.mk Q_HB
          have RV := Aside0.mk (Q_RV (hoff 13 (by kernel_rfl)))
          refine value_ (w1 := w') (v := .int .i64 k) (by rfl) rfl ?_ ?_
          · go_simp
            (try simp only [i64_w])
            try rfl
          refine hK.out _ _ ⟨ge, v1, m12_, m14_, (by rw [ha.out]; exact putSel_upk 6 hb_ rfl rfl rfl), Q_HB, Q_RV, fun h0_ _ => absurd ((hoff 12 (by kernel_rfl)).symm.trans h0_) (by decide), fun h0_ => absurd ((hoff 13 (by kernel_rfl)).symm.trans h0_) (by decide), fun h0_ => absurd ((hoff 12 (by kernel_rfl)).symm.trans h0_) (by decide), fun h0_ => absurd ((hoff 14 (by kernel_rfl)).symm.trans h0_) (by decide)⟩
        refine steps_cons ?_ ?_
        · rintro b a w' ⟨ge, v1, m12_, m14_, ha, Q_HB, Q_RV, Q_EB, Q_R1, Q_X12_, Q_X14_⟩ hb_ hon hoff
          refine ⟨_, rfl, fun K hK => ?_⟩
          have e20 : a.tmps[20]? = some (.slice (some ad) l.length c) := by rw [ha]; exact putSel_on (e := (5, 20, .slice (some ad) l.length c)) 5 rfl rfl (hon 5 (by kernel_rfl)) rfl
          have e21 : a.tmps[21]? = some (.int .i64 k) := by rw [ha]; exact putSel_on (e := (6, 21, .int .i64 k)) 6 rfl rfl (hon 6 (by kernel_rfl)) rfl
          replace ha := Aside0.mk ha
          have HB := Aside0.mk Q_HB
          have RV := Aside0.mk (Q_RV (hoff 13 (by kernel_rfl)))
          have y0 := Y0.out
          have y1 := Y1.out
          refine value_ (w1 := w') (v := .pointer (some (ad.add k))) (by rfl) rfl ?_ ?_
          · go_simp
            (try simp only [i64_w])
            try rfl
          refine hK.out _ _ ⟨ge, v1, m12_, m14_, (by rw [ha.out]; exact putSel_upk 7 hb_ rfl rfl rfl), Q_HB, Q_RV, fun h0_ _ => absurd ((hoff 12 (by kernel_rfl)).symm.trans h0_) (by decide), fun h0_ => absurd ((hoff 13 (by kernel_rfl)).symm.trans h0_) (by decide), fun h0_ => absurd ((hoff 12 (by kernel_rfl)).symm.trans h0_) (by decide), fun h0_ => absurd ((hoff 14 (by kernel_rfl)).symm.trans h0_) (by decide)⟩
        refine steps_cons ?_ ?_
        · rintro b a w' ⟨ge, v1, m12_, m14_, ha, Q_HB, Q_RV, Q_EB, Q_R1, Q_X12_, Q_X14_⟩ hb_ hon hoff
          refine ⟨_, rfl, fun K hK => ?_⟩
          have e22 : a.tmps[22]? = some (.pointer (some (ad.add k))) := by rw [ha]; exact putSel_on (e := (7, 22, .pointer (some (ad.add k)))) 7 rfl rfl (hon 7 (by kernel_rfl)) rfl
          replace ha := Aside0.mk ha
          have HB := Aside0.mk Q_HB
          have RV := Aside0.mk (Q_RV (hoff 13 (by kernel_rfl)))
          have z1 : w'.cell? (ad.add k) = some (.slice A0 C.length c0) := pw_cell_below HB.out H1.out
          refine value_ (w1 := w') (v := .slice A0 C.length c0) (by rfl) rfl ?_ ?_
          · go_simp
            (try simp only [i64_w])
            try rfl
          refine hK.out _ _ ⟨ge, v1, m12_, m14_, (by rw [ha.out]; exact putSel_upk 8 hb_ rfl rfl rfl), Q_HB, Q_RV, fun h0_ _ => absurd ((hoff 12 (by kernel_rfl)).symm.trans h0_) (by decide), fun h0_ => absurd ((hoff 13 (by kernel_rfl)).symm.trans h0_) (by decide), fun h0_ => absurd ((hoff 12 (by kernel_rfl)).symm.trans h0_) (by decide), fun h0_ => absurd ((hoff 14 (by kernel_rfl)).symm.trans h0_) (by decide)⟩
        refine steps_cons ?_ ?_
        · rintro b a w' ⟨ge, v1, m12_, m14_, ha, Q_HB, Q_RV, Q_EB, Q_R1, Q_X12_, Q_X14_⟩ hb_ hon hoff
          refine ⟨_, rfl, fun K hK => ?_⟩
          have e23 : a.tmps[23]? = some (.slice A0 C.length c0) := by rw [ha]; exact putSel_on (e := (8, 23, .slice A0 C.length c0)) 8 rfl rfl (hon 8 (by kernel_rfl)) rfl
          replace ha := Aside0.mk ha
          have HB := Aside0.mk Q_HB
          have RV := Aside0.mk (Q_RV (hoff 13 (by kernel_rfl)))
          refine value_ (w1 := w') (v := .int .i64 C.length) (by rfl) rfl ?_ ?_
          · go_simp
            (try simp only [i64_w])
            try rfl
          refine hK.out _ _ ⟨ge, v1, m12_, m14_, (by rw [ha.out]; exact putSel_upk 9 hb_ rfl rfl rfl), Q_HB, Q_RV, fun h0_ _ => absurd ((hoff 12 (by kernel_rfl)).symm.trans h0_) (by decide), fun h0_ => absurd ((hoff 13 (by kernel_rfl)).symm.trans h0_) (by decide), fun h0_ => absurd ((hoff 12 (by kernel_rfl)).symm.trans h0_) (by decide), fun h0_ => absurd ((hoff 14 (by kernel_rfl)).symm.trans h0_) (by decide)⟩
        refine steps_cons ?_ ?_
        · rintro b a w' ⟨ge, v1, m12_, m14_, ha, Q_HB, Q_RV, Q_EB, Q_R1, Q_X12_, Q_X14_⟩ hb_ hon hoff
          refine ⟨_, rfl, fun K hK => ?_⟩
          have e24 : a.tmps[24]? = some (.int .i64 C.length) := by rw [ha]; exact putSel_on (e := (9, 24, .int .i64 C.length)) 9 rfl rfl (hon 9 (by kernel_rfl)) rfl
          replace ha := Aside0.mk ha
          have HB := Aside0.mk Q_HB
          have RV := Aside0.mk (Q_RV (hoff 13 (by kernel_rfl)))
          have y2 := YM.out
          refine value_ (w1 := w') (v := .int .i64 n) (by rfl) rfl ?_ ?_
          · go_simp
            (try simp only [i64_w])
            try rfl
          refine hK.out _ _ ⟨ge, v1, m12_, m14_, (by rw [ha.out]; exact putSel_upk 10 hb_ rfl rfl rfl), Q_HB, Q_RV, fun h0_ _ => absurd ((hoff 12 (by kernel_rfl)).symm.trans h0_) (by decide), fun h0_ => absurd ((hoff 13 (by kernel_rfl)).symm.trans h0_) (by decide), fun h0_ => absurd ((hoff 12 (by kernel_rfl)).symm.trans h0_) (by decide), fun h0_ => absurd ((hoff 14 (by kernel_rfl)).symm.trans h0_) (by decide)⟩
        refine steps_cons ?_ ?_
        · rintro b a w' ⟨ge, v1, m12_, m14_, ha, Q_HB, Q_RV, Q_EB, Q_R1, Q_X12_, Q_X14_⟩ hb_ hon hoff
          refine ⟨_, rfl, fun K hK => ?_⟩
          have e19 : a.tmps[19]? = some (.slice A0 C.length c0) := by rw [ha]; exact putSel_on (e := (4, 19, .slice A0 C.length c0)) 4 rfl rfl (hon 4 (by kernel_rfl)) rfl
          have e25 : a.tmps[25]? = some (.int .i64 n) := by rw [ha]; exact putSel_on (e := (10, 25, .int .i64 n)) 10 rfl rfl (hon 10 (by kernel_rfl)) rfl
          replace ha := Aside0.mk ha
          have HB := Aside0.mk Q_HB
          have RV := Aside0.mk (Q_RV (hoff 13 (by kernel_rfl)))
          have y3 := Y3.out
          have y4 := Y4.out
          refine value_ (w1 := w') (v := .slice A0 n c0) (by rfl) rfl ?_ ?_
          · go_simp
            (try simp only [i64_w])
            try rfl
          refine hK.out _ _ ⟨ge, v1, m12_, m14_, (by rw [ha.out]; exact putSel_upk 11 hb_ rfl rfl rfl), Q_HB, Q_RV, fun h0_ _ => absurd ((hoff 12 (by kernel_rfl)).symm.trans h0_) (by decide), fun h0_ => absurd ((hoff 13 (by kernel_rfl)).symm.trans h0_) (by decide), fun h0_ => absurd ((hoff 12 (by kernel_rfl)).symm.trans h0_) (by decide), fun h0_ => absurd ((hoff 14 (by kernel_rfl)).symm.trans h0_) (by decide)⟩
        refine steps_cons ?_ ?_
        · rintro b a w' ⟨ge, v1, m12_, m14_, ha, Q_HB, Q_RV, Q_EB, Q_R1, Q_X12_, Q_X14_⟩ hb_ hon hoff
          refine ⟨_, rfl, fun K hK => ?_⟩
          have e26 : a.tmps[26]? = some (.slice A0 n c0) := by rw [ha]; exact putSel_on (e := (11, 26, .slice A0 n c0)) 11 rfl rfl (hon 11 (by kernel_rfl)) rfl
          replace ha := Aside0.mk ha
          have HB := Aside0.mk Q_HB
          have RV := Aside0.mk (Q_RV (hoff 13 (by kernel_rfl)))
          refine value_ (w1 := w'.alloc (.cells #[.slice A0 n c0] 28)) (v := .slice (some ⟨w'.heap.size, 0, none⟩) 1 1) (by rfl) rfl ?_ ?_
          · go_simp
          refine hK.out _ _ ⟨w'.heap.size, v1, (.slice (some ⟨w'.heap.size, 0, none⟩) 1 1), m14_, (by rw [ha.out]; exact putSel_upk 12 hb_ rfl rfl rfl), bthen' HB.out (below_alloc (Below.refl _ w') _), fun _ => Kd.R_below RV.out (below_alloc (Below.refl _ w') _), fun _ _ => Blk.new w' _ _ rfl, fun h0_ => absurd ((hoff 13 (by kernel_rfl)).symm.trans h0_) (by decide), fun _ => rfl, fun h0_ => absurd ((hoff 14 (by kernel_rfl)).symm.trans h0_) (by decide)⟩
        refine steps_cons ?_ ?_
        · rintro b a w' ⟨ge, v1, m12_, m14_, ha, Q_HB, Q_RV, Q_EB, Q_R1, Q_X12_, Q_X14_⟩ hb_ hon hoff
          refine ⟨_, rfl, fun K hK => ?_⟩
          have e15 : a.tmps[15]? = some (.slice Ax svs.length cx) := by rw [ha]; exact putSel_on (e := (0, 15, .slice Ax svs.length cx)) 0 rfl rfl (hon 0 (by kernel_rfl)) rfl
          have e27 : a.tmps[27]? = some (m12_) := by rw [ha]; exact putSel_on (e := (12, 27, m12_)) 12 rfl rfl (hon 12 (by kernel_rfl)) rfl
          rw [Q_X12_ (hon 12 (by kernel_rfl))] at e27
          replace ha := Aside0.mk ha
          have HB := Aside0.mk Q_HB
          have RV := Aside0.mk (Q_RV hb_)
          have EB := Aside0.mk (Q_EB (hon 12 (by kernel_rfl)) hb_)
          obtain ⟨vv, w2, hr, o1, o2, o3⟩ := append_kd (d := kSV) 23 28 _ 24 Tryd.underlying23 info28 rfl (by decide) (by omega) RV.out HB.out HB.out.size ge ⟨A0, n, c0⟩ [.slice A0 n c0] EB.out rfl (by have := HL.out; omega)
          refine value_ (w1 := w2) (v := vv) (by rfl) rfl ?_ ?_
          · exact run_append_opU (by rfl) (by assumption) (by assumption) hr
          refine hK.out _ _ ⟨ge, vv, m12_, m14_, (by rw [ha.out]; exact putSel_upk 13 hb_ rfl rfl rfl), o2, fun h0_ => absurd ((up_self b 13).symm.trans h0_) (by decide), fun _ h1_ => absurd ((up_self b 13).symm.trans h1_) (by decide), fun _ => o1, Q_X12_, fun h0_ => absurd ((hoff 14 (by kernel_rfl)).symm.trans h0_) (by decide)⟩
        refine steps_cons ?_ ?_
        · rintro b a w' ⟨ge, v1, m12_, m14_, ha, Q_HB, Q_RV, Q_EB, Q_R1, Q_X12_, Q_X14_⟩ hb_ hon hoff
          refine ⟨_, rfl, fun K hK => ?_⟩
          have e28 : a.tmps[28]? = some (v1) := by rw [ha]; exact putSel_on (e := (13, 28, v1)) 13 rfl rfl (hon 13 (by kernel_rfl)) rfl
          replace ha := Aside0.mk ha
          have HB := Aside0.mk Q_HB
          have R1 := Aside0.mk (Q_R1 (hon 13 (by kernel_rfl)))
          refine value_ (w1 := w') (v := v1) (by rfl) rfl ?_ ?_
          · go_simp
            (try simp only [i64_w])
            try rfl
          refine hK.out _ _ ⟨ge, v1, m12_, (v1), (by rw [ha.out]; exact putSel_upk 14 hb_ rfl rfl rfl), Q_HB, fun h0_ => absurd ((hon 13 (by kernel_rfl)).symm.trans h0_) (by decide), fun _ h1_ => absurd ((hon 13 (by kernel_rfl)).symm.trans h1_) (by decide), Q_R1, Q_X12_, fun _ => rfl⟩
        exact steps_nil
      · rintro b a w' hall ⟨ge, v1, m12_, m14_, ha, Q_HB, Q_RV, Q_EB, Q_R1, Q_X12_, Q_X14_⟩
        clear HB RV
        have hb0_ := hall 0 (by kernel_rfl)
        have hb1_ := hall 1 (by kernel_rfl)
        have hb2_ := hall 2 (by kernel_rfl)
        have hb3_ := hall 3 (by kernel_rfl)
        have hb4_ := hall 4 (by kernel_rfl)
        have hb5_ := hall 5 (by kernel_rfl)
        have hb6_ := hall 6 (by kernel_rfl)
        have hb7_ := hall 7 (by kernel_rfl)
        have hb8_ := hall 8 (by kernel_rfl)
        have hb9_ := hall 9 (by kernel_rfl)
        have hb10_ := hall 10 (by kernel_rfl)
        have hb11_ := hall 11 (by kernel_rfl)
        have hb12_ := hall 12 (by kernel_rfl)
        have hb13_ := hall 13 (by kernel_rfl)
        have hb14_ := hall 14 (by kernel_rfl)
        subst ha
        obtain rfl := Q_X12_ hb12_
        obtain rfl := Q_X14_ hb14_
        simp only [putSel, hb0_, hb1_, hb2_, hb3_, hb4_, hb5_, hb6_, hb7_, hb8_, hb9_, hb10_, hb11_, hb12_, hb13_, hb14_, if_true, Act.put, List.setIfInBounds_toArray, List.set_cons_zero, List.set_cons_succ]
        have HB := Aside0.mk Q_HB
        clear Q_HB
        clear Q_RV
        clear Q_EB
        have R1 := Aside0.mk (Q_R1 hb13_)
        clear Q_R1
        clear hall hb0_ hb1_ hb2_ hb3_ hb4_ hb5_ hb6_ hb7_ hb8_ hb9_ hb10_ hb11_ hb12_ hb13_ hb14_
        have HBn := Lib.hid HB.out
        have HRn := Lib.hid R1.out
        have hk := HK.out
        go_wp2_with fail
        exact ⟨⟨k + 1, svs ++ [⟨A0, n, c0⟩], by go_num, by omega, by omega, by rw [List.length_append, HSL.out]; rfl, HBn, HRn, by rw [HT.out]; exact HVW⟩, by simp [intOf]; omega⟩
    · have he : (l.take k).map (·.take 12) = fewL l := by
        unfold fewL
        rcases Nat.lt_or_ge k 4 with h | h
        · rw [List.take_of_length_le (show l.length ≤ k by omega), List.take_of_length_le (show l.length ≤ 4 by omega)]
        · rw [show k = 4 by omega]
      rw [he] at HW
      have hle : (fewL l).length ≤ 4 := by unfold fewL; rw [List.length_map, List.length_take]; omega
      obtain ⟨r1, r2, r3⟩ := C_views (e := 30) HVr.out HW.out HBr.out (by omega)
      rw [r1] at r2 ⊢
      have R2 := Lib.hid r2
      have R3 := Lib.hid r3
      have hkk : k = 4 ∨ ¬ k < l.length := by omega
      clear he HW r1 r2 r3 HVr hsl
      rcases hkk with hkk | hkk
      · by_cases hd : k < l.length
        · have d1 : decide (k < l.length) = true := decide_eq_true hd
          have d2 : decide ((k : Int) < 4) = false := decide_eq_false (by omega)
          clear hkk hlt
          go_wp2_with fail
          go_ret
          exact ⟨_, _, rfl, R2.out, R3.out, HBr.out⟩
        · have d1 : decide (k < l.length) = false := decide_eq_false hd
          clear hkk hlt
          go_wp2_with fail
          go_ret
          exact ⟨_, _, rfl, R2.out, R3.out, HBr.out⟩
      · have d1 : decide (k < l.length) = false := decide_eq_false hkk
        clear hlt
        go_wp2_with fail
        go_ret
        exact ⟨_, _, rfl, R2.out, R3.out, HBr.out⟩
end Go.Proofs.YtleljodcdbhifaaDoor
/- The law ScanFills. -/
set_option linter.unusedVariables false
set_option linter.unusedSimpArgs false
namespace Go.Proofs.YtleljodcdbhifaaDoor
open Go.RowKit Go.Proofs.YtleljodcdbhifaaDoorW.PrintWords Go.Proofs.YtleljodcdbhifaaDoorW.PrintLast Go.Proofs.YtleljodcdbhifaaDoorW.PrintMore Hy
theorem few_4 (l : List (List S30)) : (fewL l).length ≤ 4 := by unfold fewL; rw [List.length_map, List.length_take]; omega
theorem few_12 (l : List (List S30)) : ∀ c ∈ fewL l, c.length ≤ 1000 := by
  intro c hc
  unfold fewL at hc
  obtain ⟨d, _, rfl⟩ := List.mem_map.1 hc
  rw [List.length_take]
  omega
set_option maxRecDepth 100000 in
set_option maxHeartbeats 40000000 in
theorem scanFills_walk (A : Option Addr) (c : Nat) (xs : List (List Int)) (A1 : Option Addr) (c1 : Nat) (l : List (List S30)) (w : World) (hT : Tab w) (hC : Kd.C (Kd.slice 3 (Kd.int .i64)) w A xs.length xs) (hc : xs.length ≤ c) (hC1 : Kd.C (Kd.slice 30 k30) w A1 l.length l) (hc1 : l.length ≤ c1) :
    Calls Tryd.prog 4 #[.slice A xs.length c, .slice A1 l.length c1] w fun e w' => e = .returned (.bool true) ∧ Below w.heap.size w w' := by
  have hu36 := Tryd.underlying36
  obtain ⟨m, hm, hk⟩ := made_f xs
  have HM := Lib.hid hm
  have HK := Lib.hid (hk 100 (by decide))
  have HT := Lib.hid hT
  have HC := Lib.hid hC
  have HC1 := Lib.hid hC1
  have HL := Lib.hid hc
  clear hT hC hc hm hk hC1 hc1
  go_enter Tryd.func4, Tryd.ntmps4
  go_wp2_with fail
  refine (sanity_any w HT.out).mono ?_
  rintro e w2 ⟨rfl, hb⟩
  have HB2 := Lib.hid hb
  clear hb
  go_wp2_with fail
  refine (abugidaref11_Made.calls 100 A c xs m w2 (Kd.C_below HC.out HB2.out) HL.out HK.out).mono ?_
  rintro e w3 ⟨vm, rfl, hS, hb⟩
  have HB3 := Lib.hid (bthen' HB2.out hb)
  obtain ⟨Am, cm, rfl⟩ := Kd.S_slice hS
  have CM3 := Lib.hid (Kd.S_reads' hS).2.2
  clear hb HB2 hS HC HL HK
  go_wp2_with fail
  refine (few_any l A1 c1 w3 (Kd.C_below HC1.out HB3.out)).mono ?_
  rintro e w4 ⟨Af, cf, rfl, hLF, hCF, hb⟩
  have HB4 := Lib.hid (bthen' HB3.out hb)
  have CM4 := Lib.hid (Kd.C_below CM3.out hb)
  have CF4 := Lib.hid hCF
  clear hb hCF hLF HB3 CM3 HC1
  go_upto_region 3 with fail
  obtain ⟨w5, g6, hw, hg, B5, HX5, _⟩ := new_box w4 #[.slice Am m.length cm, .slice Af (fewL l).length cf] 33
  rw [hw, hg]
  have HB5 := Lib.hid (bthen' HB4.out HX5.out)
  have CM := Lib.hid (Kd.C_below CM4.out HX5.out)
  have CF := Lib.hid (Kd.C_below CF4.out HX5.out)
  have HT5 := Lib.hid (HT.out.below HB5.out)
  have F4 := Lib.hid (few_4 l)
  have FM := Lib.hid (few_12 l)
  have F6 := Lib.hid (Nat.le_trans (few_4 l) (show 4 ≤ 1000000 by decide))
  have FM6 : Hid (∀ c ∈ fewL l, c.length ≤ 1000000) := Lib.hid (fun c h => Nat.le_trans (few_12 l c h) (by decide))
  have M4 := Lib.hid (show m.length ≤ 4 by have := HM.out.1; omega)
  have MM := Lib.hid (show ∀ c ∈ m, c.length ≤ 1000 from fun c h => by have := (HM.out.2 c h).1; omega)
  have M6 := Lib.hid (show m.length ≤ 1000000 by have := HM.out.1; omega)
  have MM6 : Hid (∀ c ∈ m, c.length ≤ 1000000) := Lib.hid (fun c h => by have := (HM.out.2 c h).1; omega)
  clear hw hg HX5 HB4 CM4 CF4 HT HM
  go_wp2_with fail
  go_loopw [7] (fun i wr => ∃ k : Int, i = .int .i64 k ∧ (k = 0 ∨ k = 1 ∨ k = 2) ∧ Hid (Below w5.heap.size w5 wr)) (fun i _ => (2 - intOf i).toNat)
  case atStart => exact ⟨0, rfl, .inl rfl, Lib.hid (Below.refl _ _)⟩
  case round =>
    obtain ⟨k, rfl, hk, HBr⟩ := hrel
    rcases hk with rfl | rfl | rfl
    · have B6 := Lib.hid (B5.out.below HBr.out)
      have o0 : wr.cell? ⟨g6, 0, none⟩ = some (.slice Am m.length cm) := B6.out.cell 0
      go_wp2_with fail
      refine (fill_any Am cm m wr (HT5.out.below HBr.out) (Kd.C_below CM.out HBr.out) M6.out MM6.out).mono ?_
      rintro e w6 ⟨v, rfl, hR, hb⟩
      obtain ⟨⟨⟨bL, bT, bW, bH, br⟩, er⟩, hfb⟩ : ∃ b, fillB m = b := ⟨_, rfl⟩
      have HFB := Lib.hid hfb
      rw [hfb] at hR ⊢
      dsimp only at hR ⊢
      clear hfb
      obtain ⟨Ab, cb, rfl⟩ := Kd.R_slice hR
      have CB := Lib.hid (Kd.R_reads' hR).2.2
      have HB6 := Lib.hid (bthen' HBr.out hb)
      have B7 := Lib.hid (B6.out.below hb)
      clear hR hb o0 B6
      go_upto_region 7 with fail
      obtain ⟨w7, g8, hw, hg, X8, HX8, _⟩ := new_box w6 #[.int .i64 bL, .int .i64 bT, .int .i64 bW, .int .i64 bH, .slice Ab br.length cb] 36
      rw [hw, hg]
      have HB7 := Lib.hid (bthen' HB6.out HX8.out)
      have CB7 := Lib.hid (Kd.C_below CB.out HX8.out)
      have B8 := Lib.hid (B7.out.below HX8.out)
      clear hw hg HX8 CB B7 HB6
      have o0 : w7.cell? ⟨g6, 0, none⟩ = some (.slice Am m.length cm) := B8.out.cell 0
      go_wp2_with fail
      refine (fillR_any Am cm m w7 (Kd.C_below CM.out HB7.out) M4.out MM.out).mono ?_
      rintro e w8 ⟨v, rfl, hR, hb⟩
      rw [HFB.out] at hR ⊢
      dsimp only at hR ⊢
      obtain ⟨Ad, cd, rfl⟩ := Kd.R_slice hR
      have CD := Lib.hid (Kd.R_reads' hR).2.2
      have HB8 := Lib.hid (bthen' HB7.out hb)
      have X9 := Lib.hid (X8.out.below hb)
      have CB8 := Lib.hid (Kd.C_below CB7.out hb)
      clear hR hb o0 B8 X8 CB7 HB7
      go_upto_region 8 with fail
      obtain ⟨w9, g10, hw, hg, Y10, HY10, _⟩ := new_box w8 #[.int .i64 bL, .int .i64 bT, .int .i64 bW, .int .i64 bH, .slice Ad br.length cd] 36
      rw [hw, hg]
      have HB9 := Lib.hid (bthen' HB8.out HY10.out)
      have CB9 := Lib.hid (Kd.C_below CB8.out HY10.out)
      have CD9 := Lib.hid (Kd.C_below CD.out HY10.out)
      have X10 := Lib.hid (X9.out.below HY10.out)
      clear hw hg HY10 CB8 CD X9 HB8
      have p0 := X10.out.cell 0
      have p1 := X10.out.cell 1
      have p2 := X10.out.cell 2
      have p3 := X10.out.cell 3
      have p4 := X10.out.cell 4
      simp only [List.getElem?_toArray, List.getElem?_cons_zero, List.getElem?_cons_succ] at p0 p1 p2 p3 p4
      have q0 := Y10.out.cell 0
      have q1 := Y10.out.cell 1
      have q2 := Y10.out.cell 2
      have q3 := Y10.out.cell 3
      have q4 := Y10.out.cell 4
      simp only [List.getElem?_toArray, List.getElem?_cons_zero, List.getElem?_cons_succ] at q0 q1 q2 q3 q4
      have he : (er != er) = false := by simp
      go_wp2_with fail
      refine (ref_same_any bL bT bW bH bL bT bW bH br br Ab Ad cb cd w9 CB9.out CD9.out).mono ?_
      rintro e w10 ⟨rfl, hb⟩
      have HBe := Lib.hid (bthen' HB9.out hb)
      clear hb p0 p1 p2 p3 p4 q0 q1 q2 q3 q4 he
      rw [show sameB ⟨bL, bT, bW, bH, br⟩ ⟨bL, bT, bW, bH, br⟩ = true from sameB_refl _]
      go_wp2_with fail
      exact ⟨⟨1, rfl, by omega, HBe⟩, by simp [intOf]⟩
    · have B6 := Lib.hid (B5.out.below HBr.out)
      have o1 : wr.cell? ⟨g6, 1, none⟩ = some (.slice Af (fewL l).length cf) := B6.out.cell 1
      go_wp2_with fail
      refine (fill_any Af cf (fewL l) wr (HT5.out.below HBr.out) (Kd.C_below CF.out HBr.out) F6.out FM6.out).mono ?_
      rintro e w6 ⟨v, rfl, hR, hb⟩
      obtain ⟨⟨⟨bL, bT, bW, bH, br⟩, er⟩, hfb⟩ : ∃ b, fillB (fewL l) = b := ⟨_, rfl⟩
      have HFB := Lib.hid hfb
      rw [hfb] at hR ⊢
      dsimp only at hR ⊢
      clear hfb
      obtain ⟨Ab, cb, rfl⟩ := Kd.R_slice hR
      have CB := Lib.hid (Kd.R_reads' hR).2.2
      have HB6 := Lib.hid (bthen' HBr.out hb)
      have B7 := Lib.hid (B6.out.below hb)
      clear hR hb o1 B6
      go_upto_region 7 with fail
      obtain ⟨w7, g8, hw, hg, X8, HX8, _⟩ := new_box w6 #[.int .i64 bL, .int .i64 bT, .int .i64 bW, .int .i64 bH, .slice Ab br.length cb] 36
      rw [hw, hg]
      have HB7 := Lib.hid (bthen' HB6.out HX8.out)
      have CB7 := Lib.hid (Kd.C_below CB.out HX8.out)
      have B8 := Lib.hid (B7.out.below HX8.out)
      clear hw hg HX8 CB B7 HB6
      have o1 : w7.cell? ⟨g6, 1, none⟩ = some (.slice Af (fewL l).length cf) := B8.out.cell 1
      go_wp2_with fail
      refine (fillR_any Af cf (fewL l) w7 (Kd.C_below CF.out HB7.out) F4.out FM.out).mono ?_
      rintro e w8 ⟨v, rfl, hR, hb⟩
      rw [HFB.out] at hR ⊢
      dsimp only at hR ⊢
      obtain ⟨Ad, cd, rfl⟩ := Kd.R_slice hR
      have CD := Lib.hid (Kd.R_reads' hR).2.2
      have HB8 := Lib.hid (bthen' HB7.out hb)
      have X9 := Lib.hid (X8.out.below hb)
      have CB8 := Lib.hid (Kd.C_below CB7.out hb)
      clear hR hb o1 B8 X8 CB7 HB7
      go_upto_region 8 with fail
      obtain ⟨w9, g10, hw, hg, Y10, HY10, _⟩ := new_box w8 #[.int .i64 bL, .int .i64 bT, .int .i64 bW, .int .i64 bH, .slice Ad br.length cd] 36
      rw [hw, hg]
      have HB9 := Lib.hid (bthen' HB8.out HY10.out)
      have CB9 := Lib.hid (Kd.C_below CB8.out HY10.out)
      have CD9 := Lib.hid (Kd.C_below CD.out HY10.out)
      have X10 := Lib.hid (X9.out.below HY10.out)
      clear hw hg HY10 CB8 CD X9 HB8
      have p0 := X10.out.cell 0
      have p1 := X10.out.cell 1
      have p2 := X10.out.cell 2
      have p3 := X10.out.cell 3
      have p4 := X10.out.cell 4
      simp only [List.getElem?_toArray, List.getElem?_cons_zero, List.getElem?_cons_succ] at p0 p1 p2 p3 p4
      have q0 := Y10.out.cell 0
      have q1 := Y10.out.cell 1
      have q2 := Y10.out.cell 2
      have q3 := Y10.out.cell 3
      have q4 := Y10.out.cell 4
      simp only [List.getElem?_toArray, List.getElem?_cons_zero, List.getElem?_cons_succ] at q0 q1 q2 q3 q4
      have he : (er != er) = false := by simp
      go_wp2_with fail
      refine (ref_same_any bL bT bW bH bL bT bW bH br br Ab Ad cb cd w9 CB9.out CD9.out).mono ?_
      rintro e w10 ⟨rfl, hb⟩
      have HBe := Lib.hid (bthen' HB9.out hb)
      clear hb p0 p1 p2 p3 p4 q0 q1 q2 q3 q4 he
      rw [show sameB ⟨bL, bT, bW, bH, br⟩ ⟨bL, bT, bW, bH, br⟩ = true from sameB_refl _]
      go_wp2_with fail
      exact ⟨⟨2, rfl, by omega, HBe⟩, by simp [intOf]⟩
    · have HBe := Lib.hid (bthen' HB5.out HBr.out)
      go_wp2_with fail
      go_ret
      exact ⟨rfl, HBe.out⟩
end Go.Proofs.YtleljodcdbhifaaDoor
