/- Ba2: merged by wip/prune.py. -/
import Derived.Shelf.Strconv.Itoa0
import Derived.Shelf.Bits.Mul64
import Derived.Ground.SlgnProg
import Derived.Shelf.SlicesE.Clone
import Derived.Test.YtleljodcdbhifaaDoorProg
import Derived.Laws.Bits64b
import Derived.Lib.TrailingZeros
import Derived.Deep.AppendLies
import Derived.Deep.DrawnRows
import Derived.Deep.DeepCutAuto
import Derived.Deep.RegionHeld3
import Derived.Deep.RegionLaw
import Derived.StillTailTactics
import Derived.Test.YtleljodcdbhifaaDoorWInvWords
import Derived.RangeFuncNested
import Derived.RangeFuncBound
import Derived.RangeFuncCalls
import Derived.RangeFuncLeaves
import Derived.Shelf.Abstract
import Derived.WalkKit
import Derived.OwnWalkIn
import Derived.TacticsInMore
import Derived.LoopNIn
import Derived.LoopIn
import Derived.RegionIn
import Derived.Sort.CutIn
import Derived.Test.YtleljodcdbhifaaDoorFi0
/- Merged by wip/rebase.py: ScIdx, Shelf, ScBits, ScSame, ScRight, ScTrim, ScClone, ScOr, ScGet, ScMove, ScPcA, ScPcC, ScAll. -/
/- Contracts of slices.IndexFunc and slices.ContainsFunc with the closures that this program hands in. -/
set_option linter.unusedVariables false
set_option linter.unusedSimpArgs false
namespace Go.Proofs.YtleljodcdbhifaaDoor
open Go.RowKit Go.Proofs.YtleljodcdbhifaaDoorW.PrintWords Go.Proofs.YtleljodcdbhifaaDoorW.PrintLast Go.Proofs.YtleljodcdbhifaaDoorW.PrintMore Hy
/-- the first place at which p holds; -1, if there is none -/
def ixOf {α : Type} (p : α → Bool) : List α → Int
  | [] => -1
  | x :: xs => if p x then 0 else if ixOf p xs < 0 then -1 else ixOf p xs + 1
theorem ixOf_ge {α : Type} (p : α → Bool) (xs : List α) : -1 ≤ ixOf p xs := by
  induction xs with
  | nil => exact Int.le_refl _
  | cons x xs ih => unfold ixOf; split; omega; split <;> omega
theorem ixOf_any {α : Type} (p : α → Bool) (xs : List α) : decide (0 ≤ ixOf p xs) = xs.any p := by
  induction xs with
  | nil => rfl
  | cons x xs ih =>
    have hg := ixOf_ge p xs
    rw [List.any_cons]
    unfold ixOf
    cases h : p x with
    | true => simp
    | false =>
      simp only [Bool.false_or, Bool.false_eq_true, if_false]
      rw [← ih]
      split
      · rw [decide_eq_false (by omega), decide_eq_false (by omega)]
      · rw [decide_eq_true (by omega), decide_eq_true (by omega)]
theorem ixOf_at {α : Type} (p : α → Bool) (xs : List α) (z : α) (k : Nat) (hk : k < xs.length) (h : ∀ j, j < k → p (xs.getD j z) = false) (hp : p (xs.getD k z) = true) : ixOf p xs = k := by
  induction xs generalizing k with
  | nil => simp at hk
  | cons x xs ih =>
    unfold ixOf
    cases k with
    | zero =>
      have : p x = true := hp
      rw [this]; rfl
    | succ k =>
      have h0 : p x = false := h 0 (by omega)
      have h1 := ih k (by simpa using hk) (fun j hj => by have := h (j + 1) (by omega); simpa using this) (by simpa using hp)
      rw [h0, h1]
      simp only [Bool.false_eq_true, if_false]
      rw [if_neg (by omega)]; omega
theorem ixOf_none {α : Type} (p : α → Bool) (xs : List α) (z : α) (h : ∀ j, j < xs.length → p (xs.getD j z) = false) : ixOf p xs = -1 := by
  induction xs with
  | nil => rfl
  | cons x xs ih =>
    unfold ixOf
    have h0 : p x = false := h 0 (by simp)
    have h1 := ih (fun j hj => by have := h (j + 1) (by simpa using hj); simpa using this)
    rw [h0, h1]; rfl
set_option maxHeartbeats 2000000 in
theorem ix_fit (p : Int → Bool) (xs : List Int) (A : Option Addr) (c : Nat) (cp0 : Value) (w : World) (hC : Kd.C (Kd.int .u64) w A xs.length xs)
    (hf : ∀ x ∈ xs, ∀ w1, Below w.heap.size w w1 → Calls Tryd.prog 40 #[.int .u64 x, cp0] w1 fun e w2 => e = .returned (.bool (p x)) ∧ Below w1.heap.size w1 w2) :
    Calls Tryd.prog 43 #[.slice A xs.length c, .func (.func 40) #[] #[cp0]] w fun e w' => e = .returned (.int .i64 (ixOf p xs)) ∧ Below w.heap.size w w' := by
  have hm : xs.length ≤ 9223372036854775807 := hC.2.1
  have HC := Lib.hid hC
  have HF := Lib.hid hf
  have H0 := Lib.hid (Below.refl w.heap.size w)
  clear hC hf
  go_enter Tryd.func43, Tryd.ntmps43
  go_wp2_with fail
  go_loopw [8] (fun v wr => ∃ k : Nat, k ≤ xs.length ∧ v = .int .i64 k ∧ Hid (∀ j, j < k → p (xs.getD j 0) = false) ∧ Hid (Below w.heap.size w wr)) (fun v _ => xs.length - (intOf v).toNat)
  case atStart => exact ⟨0, Nat.zero_le _, rfl, Lib.hid (fun j hj => absurd hj (Nat.not_lt_zero _)), H0⟩
  case round =>
  obtain ⟨k, hk, rfl, HP, HB⟩ := hrel
  by_cases hlt : k < xs.length
  · obtain ⟨ad, cs, hA, hl, hK, hcell⟩ := Kd.C_get (Kd.C_below HC.out HB.out) 0 (k : Int) (by omega) (by omega)
    rw [Int.toNat_natCast] at hK hcell
    have hcs : cs = [.int .u64 (xs.getD k 0)] := hK
    subst hcs
    have g0 : wr.cell? (ad.add k) = some (.int .u64 (xs.getD k 0)) := by
      have h := hcell 0 (.int .u64 (xs.getD k 0)) rfl
      simpa [Kd.int, Kd.scalar] using h
    have hmem : xs.getD k 0 ∈ xs := by
      rw [List.getD_eq_getElem?_getD, List.getElem?_eq_getElem hlt]
      exact List.getElem_mem hlt
    have hpx : p (xs.getD k 0) = true ∨ p (xs.getD k 0) = false := by cases p (xs.getD k 0) <;> simp
    have hnext : p (xs.getD k 0) = false → ∀ j, j < k + 1 → p (xs.getD j 0) = false := by
      intro h j hj
      rcases Nat.lt_or_ge j k with h1 | h1
      · exact HP.out j h1
      · rw [show j = k by omega]; exact h
    have hend : p (xs.getD k 0) = true → ixOf p xs = k := fun h => ixOf_at p xs 0 k hlt HP.out h
    generalize xs.getD k 0 = xk at hmem hpx hnext hend g0
    have HM := Lib.hid hmem
    have HN := Lib.hid hnext
    have HE := Lib.hid hend
    subst hA
    have hcap : (k : Int) < xs.length := by omega
    clear hcell hK hl hmem hnext hend HP
    rcases hpx with hpx | hpx
    all_goals
      have PX := Lib.hid hpx
      clear hpx
      go_wp2_with fail
      refine (HF.out _ HM.out _ HB.out).mono ?_
      rintro e w1 ⟨rfl, hb⟩
      have HB1 := Lib.hid (bthen' HB.out hb)
      clear hb
      rw [PX.out]
      go_wp2_with fail
    · go_ret
      exact ⟨ret_int (HE.out PX.out).symm, HB1.out⟩
    · go_roundw
      case rel => exact ⟨k + 1, by omega, by go_num, Lib.hid (HN.out PX.out), HB1⟩
      case measure => simp [intOf]; omega
  · have hk2 : k = xs.length := by omega
    have HE := Lib.hid (ixOf_none p xs 0 (fun j hj => HP.out j (by omega)))
    clear HP HF
    go_wp2_with fail
    go_ret
    exact ⟨ret_int HE.out.symm, HB.out⟩
set_option maxHeartbeats 1000000 in
theorem any_fit (p : Int → Bool) (xs : List Int) (A : Option Addr) (c : Nat) (cp0 : Value) (w : World) (hC : Kd.C (Kd.int .u64) w A xs.length xs)
    (hf : ∀ x ∈ xs, ∀ w1, Below w.heap.size w w1 → Calls Tryd.prog 40 #[.int .u64 x, cp0] w1 fun e w2 => e = .returned (.bool (p x)) ∧ Below w1.heap.size w1 w2) :
    Calls Tryd.prog 39 #[.slice A xs.length c, .func (.func 40) #[] #[cp0]] w fun e w' => e = .returned (.bool (xs.any p)) ∧ Below w.heap.size w w' := by
  have hC' := Lib.hid (ix_fit p xs A c cp0 w hC hf)
  have hix := ixOf_any p xs
  have hix' : xs.any p = true ∨ xs.any p = false := by cases xs.any p <;> simp
  clear hC hf
  rcases hix' with hix' | hix'
  all_goals
    rw [hix'] at hix
    have hd : decide (0 ≤ ixOf p xs) = _ := hix
    have HX := Lib.hid hix'
    rw [hix']
    clear hix hix'
    go_enter Tryd.func39, Tryd.ntmps39
    go_wp2_with fail
    refine hC'.out.mono ?_
    rintro e w1 ⟨rfl, hb⟩
    go_wp2_with fail
    go_ret
    exact ⟨rfl, hb⟩
set_option maxHeartbeats 2000000 in
theorem ix_nz (p : Int → Bool) (xs : List Int) (A : Option Addr) (c : Nat)  (w : World) (hC : Kd.C (Kd.int .u64) w A xs.length xs)
    (hf : ∀ x ∈ xs, ∀ w1, Below w.heap.size w w1 → Calls Tryd.prog 44 #[.int .u64 x] w1 fun e w2 => e = .returned (.bool (p x)) ∧ Below w1.heap.size w1 w2) :
    Calls Tryd.prog 43 #[.slice A xs.length c, .func (.func 44) #[] #[]] w fun e w' => e = .returned (.int .i64 (ixOf p xs)) ∧ Below w.heap.size w w' := by
  have hm : xs.length ≤ 9223372036854775807 := hC.2.1
  have HC := Lib.hid hC
  have HF := Lib.hid hf
  have H0 := Lib.hid (Below.refl w.heap.size w)
  clear hC hf
  go_enter Tryd.func43, Tryd.ntmps43
  go_wp2_with fail
  go_loopw [8] (fun v wr => ∃ k : Nat, k ≤ xs.length ∧ v = .int .i64 k ∧ Hid (∀ j, j < k → p (xs.getD j 0) = false) ∧ Hid (Below w.heap.size w wr)) (fun v _ => xs.length - (intOf v).toNat)
  case atStart => exact ⟨0, Nat.zero_le _, rfl, Lib.hid (fun j hj => absurd hj (Nat.not_lt_zero _)), H0⟩
  case round =>
  obtain ⟨k, hk, rfl, HP, HB⟩ := hrel
  by_cases hlt : k < xs.length
  · obtain ⟨ad, cs, hA, hl, hK, hcell⟩ := Kd.C_get (Kd.C_below HC.out HB.out) 0 (k : Int) (by omega) (by omega)
    rw [Int.toNat_natCast] at hK hcell
    have hcs : cs = [.int .u64 (xs.getD k 0)] := hK
    subst hcs
    have g0 : wr.cell? (ad.add k) = some (.int .u64 (xs.getD k 0)) := by
      have h := hcell 0 (.int .u64 (xs.getD k 0)) rfl
      simpa [Kd.int, Kd.scalar] using h
    have hmem : xs.getD k 0 ∈ xs := by
      rw [List.getD_eq_getElem?_getD, List.getElem?_eq_getElem hlt]
      exact List.getElem_mem hlt
    have hpx : p (xs.getD k 0) = true ∨ p (xs.getD k 0) = false := by cases p (xs.getD k 0) <;> simp
    have hnext : p (xs.getD k 0) = false → ∀ j, j < k + 1 → p (xs.getD j 0) = false := by
      intro h j hj
      rcases Nat.lt_or_ge j k with h1 | h1
      · exact HP.out j h1
      · rw [show j = k by omega]; exact h
    have hend : p (xs.getD k 0) = true → ixOf p xs = k := fun h => ixOf_at p xs 0 k hlt HP.out h
    generalize xs.getD k 0 = xk at hmem hpx hnext hend g0
    have HM := Lib.hid hmem
    have HN := Lib.hid hnext
    have HE := Lib.hid hend
    subst hA
    have hcap : (k : Int) < xs.length := by omega
    clear hcell hK hl hmem hnext hend HP
    rcases hpx with hpx | hpx
    all_goals
      have PX := Lib.hid hpx
      clear hpx
      go_wp2_with fail
      refine (HF.out _ HM.out _ HB.out).mono ?_
      rintro e w1 ⟨rfl, hb⟩
      have HB1 := Lib.hid (bthen' HB.out hb)
      clear hb
      rw [PX.out]
      go_wp2_with fail
    · go_ret
      exact ⟨ret_int (HE.out PX.out).symm, HB1.out⟩
    · go_roundw
      case rel => exact ⟨k + 1, by omega, by go_num, Lib.hid (HN.out PX.out), HB1⟩
      case measure => simp [intOf]; omega
  · have hk2 : k = xs.length := by omega
    have HE := Lib.hid (ixOf_none p xs 0 (fun j hj => HP.out j (by omega)))
    clear HP HF
    go_wp2_with fail
    go_ret
    exact ⟨ret_int HE.out.symm, HB.out⟩
set_option maxHeartbeats 2000000 in
theorem ix_far (p : S30 → Bool) (xs : List S30) (A : Option Addr) (c : Nat)  (w : World) (hC : Kd.C k30 w A xs.length xs)
    (hf : ∀ x ∈ xs, ∀ w1, Below w.heap.size w w1 → Calls Tryd.prog 48 #[.agg #[.int .i64 x.f0, .int .i64 x.f1, .bool x.f2]] w1 fun e w2 => e = .returned (.bool (p x)) ∧ Below w1.heap.size w1 w2) :
    Calls Tryd.prog 55 #[.slice A xs.length c, .func (.func 48) #[] #[]] w fun e w' => e = .returned (.int .i64 (ixOf p xs)) ∧ Below w.heap.size w w' := by
  have hm : xs.length ≤ 9223372036854775807 := hC.2.1
  have HC := Lib.hid hC
  have HF := Lib.hid hf
  have H0 := Lib.hid (Below.refl w.heap.size w)
  clear hC hf
  go_enter Tryd.func55, Tryd.ntmps55
  go_wp2_with fail
  go_loopw [8] (fun v wr => ∃ k : Nat, k ≤ xs.length ∧ v = .int .i64 k ∧ Hid (∀ j, j < k → p (xs.getD j z30) = false) ∧ Hid (Below w.heap.size w wr)) (fun v _ => xs.length - (intOf v).toNat)
  case atStart => exact ⟨0, Nat.zero_le _, rfl, Lib.hid (fun j hj => absurd hj (Nat.not_lt_zero _)), H0⟩
  case round =>
  obtain ⟨k, hk, rfl, HP, HB⟩ := hrel
  by_cases hlt : k < xs.length
  · obtain ⟨ad, cs, hA, hl, hK, hcell⟩ := Kd.C_get (Kd.C_below HC.out HB.out) z30 (k : Int) (by omega) (by omega)
    rw [Int.toNat_natCast] at hK hcell
    have hcs : cs = [.int .i64 (xs.getD k z30).f0, .int .i64 (xs.getD k z30).f1, .bool (xs.getD k z30).f2] := by
      obtain ⟨c0, c1, rfl, h0, c2, c3, rfl, h2, h3⟩ := hK
      have e0 : c0 = _ := h0
      have e2 : c2 = _ := h2
      have e3 : c3 = _ := h3
      rw [e0, e2, e3]; rfl
    subst hcs
    have g0 : wr.cell? (ad.add (k * 3)) = some (.int .i64 (xs.getD k z30).f0) := by
      have h := hcell 0 (.int .i64 (xs.getD k z30).f0) rfl
      simpa [k30, Kd.iso, Kd.pair, Kd.int, Kd.bool, Kd.scalar] using h
    have g1 : wr.cell? ⟨(ad.add (k * 3)).block, (ad.add (k * 3)).off + 1, none⟩ = some (.int .i64 (xs.getD k z30).f1) := by
      have h := hcell 1 (.int .i64 (xs.getD k z30).f1) rfl
      rw [show ⟨(ad.add (k * 3)).block, (ad.add (k * 3)).off + 1, none⟩ = ad.add (k * 3 + 1) from (add_field ad (k * 3) 1 (by omega)).symm]
      simpa [k30, Kd.iso, Kd.pair, Kd.int, Kd.bool, Kd.scalar] using h
    have g2 : wr.cell? ⟨(ad.add (k * 3)).block, (ad.add (k * 3)).off + 2, none⟩ = some (.bool (xs.getD k z30).f2) := by
      have h := hcell 2 (.bool (xs.getD k z30).f2) rfl
      rw [show ⟨(ad.add (k * 3)).block, (ad.add (k * 3)).off + 2, none⟩ = ad.add (k * 3 + 2) from (add_field ad (k * 3) 2 (by omega)).symm]
      simpa [k30, Kd.iso, Kd.pair, Kd.int, Kd.bool, Kd.scalar] using h
    have hmem : xs.getD k z30 ∈ xs := by
      rw [List.getD_eq_getElem?_getD, List.getElem?_eq_getElem hlt]
      exact List.getElem_mem hlt
    have hpx : p (xs.getD k z30) = true ∨ p (xs.getD k z30) = false := by cases p (xs.getD k z30) <;> simp
    have hnext : p (xs.getD k z30) = false → ∀ j, j < k + 1 → p (xs.getD j z30) = false := by
      intro h j hj
      rcases Nat.lt_or_ge j k with h1 | h1
      · exact HP.out j h1
      · rw [show j = k by omega]; exact h
    have hend : p (xs.getD k z30) = true → ixOf p xs = k := fun h => ixOf_at p xs z30 k hlt HP.out h
    generalize xs.getD k z30 = xk at hmem hpx hnext hend g0 g1 g2
    obtain ⟨x0, x1, x2⟩ := xk
    dsimp only at g0 g1 g2
    have HM := Lib.hid hmem
    have HN := Lib.hid hnext
    have HE := Lib.hid hend
    subst hA
    have hcap : (k : Int) < xs.length := by omega
    clear hcell hK hl hmem hnext hend HP
    rcases hpx with hpx | hpx
    all_goals
      have PX := Lib.hid hpx
      clear hpx
      go_wp2_with fail
      refine (HF.out _ HM.out _ HB.out).mono ?_
      rintro e w1 ⟨rfl, hb⟩
      have HB1 := Lib.hid (bthen' HB.out hb)
      clear hb
      rw [PX.out]
      go_wp2_with fail
    · go_ret
      exact ⟨ret_int (HE.out PX.out).symm, HB1.out⟩
    · go_roundw
      case rel => exact ⟨k + 1, by omega, by go_num, Lib.hid (HN.out PX.out), HB1⟩
      case measure => simp [intOf]; omega
  · have hk2 : k = xs.length := by omega
    have HE := Lib.hid (ixOf_none p xs z30 (fun j hj => HP.out j (by omega)))
    clear HP HF
    go_wp2_with fail
    go_ret
    exact ⟨ret_int HE.out.symm, HB.out⟩
set_option maxHeartbeats 1000000 in
theorem any_far (p : S30 → Bool) (xs : List S30) (A : Option Addr) (c : Nat)  (w : World) (hC : Kd.C k30 w A xs.length xs)
    (hf : ∀ x ∈ xs, ∀ w1, Below w.heap.size w w1 → Calls Tryd.prog 48 #[.agg #[.int .i64 x.f0, .int .i64 x.f1, .bool x.f2]] w1 fun e w2 => e = .returned (.bool (p x)) ∧ Below w1.heap.size w1 w2) :
    Calls Tryd.prog 47 #[.slice A xs.length c, .func (.func 48) #[] #[]] w fun e w' => e = .returned (.bool (xs.any p)) ∧ Below w.heap.size w w' := by
  have hC' := Lib.hid (ix_far p xs A c  w hC hf)
  have hix := ixOf_any p xs
  have hix' : xs.any p = true ∨ xs.any p = false := by cases xs.any p <;> simp
  clear hC hf
  rcases hix' with hix' | hix'
  all_goals
    rw [hix'] at hix
    have hd : decide (0 ≤ ixOf p xs) = _ := hix
    have HX := Lib.hid hix'
    rw [hix']
    clear hix hix'
    go_enter Tryd.func47, Tryd.ntmps47
    go_wp2_with fail
    refine hC'.out.mono ?_
    rintro e w1 ⟨rfl, hb⟩
    go_wp2_with fail
    go_ret
    exact ⟨rfl, hb⟩
end Go.Proofs.YtleljodcdbhifaaDoor
/-
  DERIVED: THE SHELF's CONTRACTS AT THIS DUMP, IN PLAIN WORDS (tools/lay-plain.mjs out of 'TrydShelf.lean', which tools/lay-shelf.mjs wrote): THE SAME DECLARATIONS UNDER THE SAME NAMES: 'import', 'namespace', 'open', 'def', 'theorem' AND NOTHING ELSE: no command of the shelf's: FOR A HAND-IN. Each laying: the table of numbers ('.._ren') and one theorem, a field a fact of the dump's own or the kernel's comparison; each contract: ONE APPLICATION.
-/
namespace Go.Proofs
open Go.Shelf
def Tryd.lays129_ren : Go.Shelf.Ren := ⟨fun | 129 => 41 | n => n, fun | 53 => 59 | 3 => 3 | 4 => 4 | 46 => 69 | 5 => 5 | 9 => 9 | n => n, fun | n => n⟩
theorem Tryd.lays129 : Go.Proofs.Lays.n129 Tryd.prog Tryd.lays129_ren := {
  mixed := by kernel_rfl
  f129 := Tryd.func41.trans (congrArg some (by kernel_rfl))
  t3 := Tryd.underlying3
  a3 := Tryd.isAgg3
  z3 := Tryd.sizeOf3
  v3 := Tryd.zeroValue3
  t4 := Tryd.underlying4
  a4 := Tryd.isAgg4
  z4 := Tryd.sizeOf4
  v4 := Tryd.zeroValue4
  t5 := Tryd.underlying5
  a5 := Tryd.isAgg5
  z5 := Tryd.sizeOf5
  v5 := Tryd.zeroValue5
  t9 := Tryd.underlying9
  a9 := Tryd.isAgg9
  z9 := Tryd.sizeOf9
  v9 := Tryd.zeroValue9
  t46 := Tryd.underlying69
  a46 := Tryd.isAgg69
  z46 := Tryd.sizeOf69
  v46 := Tryd.zeroValue69
  t53 := Tryd.underlying59
  a53 := Tryd.isAgg59
  z53 := Tryd.sizeOf59
  v53 := Tryd.zeroValue59 }
/-- bits.Len64: "Len64 returns the minimum number of bits required to represent x; the result is 0 for x == 0.": IT RETURNS 'Lib.bitLen x'; the world is as it was. ('h0', 'h1': x is a uint64.) (LAID: no walk: one application.) -/
theorem Tryd.bits_Len64 (x : Int) (w : World) (h0 : 0 ≤ x) (h1 : x ≤ 18446744073709551615) :
    Calls Tryd.prog 41 #[.int .u64 x] w fun e w' => e = .returned (.int .i64 (Lib.bitLen x.toNat)) ∧ w' = w := Any.bits_Len64 Tryd.lays129 x w h0 h1
def Tryd.laysSlE041_f46_ren : Go.Shelf.Ren := ⟨fun | 41 => 46 | n => n, fun | 22 => 34 | 23 => 59 | 4 => 4 | n => n, fun | n => n⟩
theorem Tryd.laysSlE041_f46 : Go.Proofs.SlLaysE0.n41 Tryd.prog Tryd.laysSlE041_f46_ren := {
  mixed := by kernel_rfl
  f41 := ⟨Tryd.f46.name, by decide, Tryd.func46.trans (congrArg some (by kernel_rfl))⟩
  t4 := Tryd.underlying4
  a4 := Tryd.isAgg4
  z4 := Tryd.sizeOf4
  v4 := Tryd.zeroValue4
  t22 := Tryd.underlying34
  a22 := Tryd.isAgg34
  z22 := Tryd.sizeOf34
  v22 := Tryd.zeroValue34 }
open Go.RowKit Go.Lib in
/-- The same at nil: nil comes back; the world is as it was; nothing is asked of the element's type. (LAID AT THE INSTANCE 'slices.Clone[[]uint64,uint64]': no walk: one application.) -/
theorem Tryd.slices_Clone_nil (n c : Nat) (w : World) :
    Calls Tryd.prog 46 #[.slice none n c] w fun e w' => e = .returned (.slice none 0 0) ∧ w' = w := AnyE.slices_Clone_nil Tryd.laysSlE041_f46 n c w
end Go.Proofs
/- math/bits.Len64 and TrailingZeros64, slices.Clone, in this program's words. -/
set_option linter.unusedVariables false
set_option linter.unusedSimpArgs false
namespace Go.Proofs.YtleljodcdbhifaaDoor
open Go.RowKit Go.Proofs.YtleljodcdbhifaaDoorW.PrintWords Go.Proofs.YtleljodcdbhifaaDoorW.PrintLast Go.Proofs.YtleljodcdbhifaaDoorW.PrintMore Hy
/-- a word of 64 bits -/
def u64 (x : Int) : Prop := 0 ≤ x ∧ x ≤ 18446744073709551615
instance : DecidablePred u64 := fun n => inferInstanceAs (Decidable (_ ∧ _))
/-- the table of math/bits lies in its variable -/
def Tab (w : World) : Prop := ∀ j, j < Lib.deBruijn64tab.length → w.cell? ⟨0, j, none⟩ = some (.int .u8 (Lib.deBruijn64tab.getD j 0))
theorem Tab.below {w w1 : World} (h : Tab w) (hb : Below w.heap.size w w1) : Tab w1 := fun j hj => pw_cell_below hb (h j hj)
theorem tz_key (x a : Nat) (hx : x < 18446744073709551616) (hx0 : x ≠ 0) (hlow : x &&& (18446744073709551616 - x) = a) :
    IntKind.u64.wrap (bits BinOp.and IntKind.u64 (x : Int) (IntKind.u64.wrap (-(x : Int))) * 285870213051353865) / 288230376151711744 = ((a * 285870213051353865 % 18446744073709551616 / 288230376151711744 : Nat) : Int) := by
  have e1 : IntKind.u64.wrap (-(x : Int)) = ((18446744073709551616 - x : Nat) : Int) := by rw [IntKind.wrap_u64]; omega
  rw [e1, bits_and_u64_nat x _ hx (by omega), hlow, IntKind.wrap_u64]
  omega
set_option maxHeartbeats 1000000 in
theorem tz_core (x k idx : Nat) (w : World) (hx0 : ((x : Int) == 0) = false)
    (key : IntKind.u64.wrap (bits BinOp.and IntKind.u64 (x : Int) (IntKind.u64.wrap (-(x : Int))) * 285870213051353865) / 288230376151711744 = (idx : Int))
    (hi : idx < 64) (hk : k < 64) (hcell : w.cell? ⟨0, idx, none⟩ = some (.int .u8 k)) :
    Calls Tryd.prog 45 #[.int .u64 x] w fun e w' => e = .returned (.int .i64 k) ∧ w = w' := by
  go_enter Tryd.func45, Tryd.ntmps45
  go_wp2_with (simp only [key])
  go_ret
  exact ⟨rfl, rfl⟩
theorem tz64_any (x : Nat) (hx : x < 18446744073709551616) (hx0 : x ≠ 0) (w : World) (hT : Tab w) :
    Calls Tryd.prog 45 #[.int .u64 x] w fun e w' => e = .returned (.int .i64 (Lib.ctz 64 x)) ∧ w = w' := by
  obtain ⟨hlow, hk⟩ := Lib.lowest_bit 64 x hx0 hx
  obtain ⟨hi, htab⟩ := Lib.deBruijn64_at _ hk
  have hcell := hT _ hi
  rw [htab] at hcell
  exact tz_core x _ _ w (by simp; omega) (tz_key x _ hx hx0 hlow) hi hk hcell
/-- a copy of a row of words -/
theorem clone_any (A : Option Addr) (c : Nat) (xs : List Int) (w : World) (hC : Kd.C (Kd.int .u64) w A xs.length xs) (hn : xs.length * 8 ≤ 140737488355328) :
    Calls Tryd.prog 46 #[.slice A xs.length c] w fun e w' => ∃ v, e = .returned v ∧ Kd.R (Kd.int .u64) 59 w' w.heap.size (fun _ => True) v xs ∧ Below w.heap.size w w' := by
  cases A with
  | none =>
    obtain rfl : xs = [] := by
      rcases Nat.eq_zero_or_pos xs.length with h | h
      · exact List.length_eq_zero_iff.1 h
      · obtain ⟨_, e, _⟩ := hC.2.2 h
        cases e
    refine (Tryd.slices_Clone_nil 0 c w).mono ?_
    rintro e w' ⟨rfl, rfl⟩
    exact ⟨_, rfl, Kd.R_nil _ _ _ _ _, Below.refl _ _⟩
  | some ad =>
    have q : ∀ (w : World) (a : Option Addr) (n c n' c' : Nat), (binOp .eql 34 (.slice a n c) (.slice none n' c')).run Tryd.prog w = .ok (.bool a.isNone) w := fun w a n c n' c' => Lib.run_eql_slice_nil w _ _ a n c n' c' Tryd.underlying34
    have HR := Lib.hid (Kd.reads_of_C (d := 0) hC : ReadsOf (Value.int .u64) 0 w (some ad) xs.length xs)
    have HB := Lib.hid (below_alloc (Below.refl w.heap.size w) (.cells #[] 59))
    have HO := Lib.hid (own_lit_of (enc := Value.int .u64) w w.heap.size 59 ([] : List Int) (Nat.le_refl _) (by simp))
    have HS : Hid (ReadsOf (Value.int .u64) 0 (w.alloc (.cells #[] 59)) (some ad) xs.length xs) := Lib.hid (HR.out.below (below_alloc (Below.refl w.heap.size w) _))
    have HN := Lib.hid hn
    clear hC hn HR
    go_enter Tryd.func46, Tryd.ntmps46
    go_wp2_with (at_builtin; refine print_append_row_of (w0 := w) (Value.int .u64) (0 : Int) w.heap.size rfl (.tmp 5) (.tmp 6) 34 59 (.int .u64 0) 8 rfl Tryd.underlying34 info59 rfl (by decide) (fun _ => rfl) (.slice (some ⟨w.heap.size, 0, none⟩) 0 0) [] xs (some ad) xs.length c rfl rfl HO.out HS.out HB.out (by simp) (by simpa using HN.out) ?_; intro v1 w1 hown hb hg hat)
    go_ret
    refine ⟨_, rfl, ?_, hb⟩
    rw [List.nil_append] at hown
    exact Kd.R_of_own hown (fun _ _ => trivial)
end Go.Proofs.YtleljodcdbhifaaDoor
/- Equality of rows and of bitmaps. -/
set_option linter.unusedVariables false
set_option linter.unusedSimpArgs false
namespace Go.Proofs.YtleljodcdbhifaaDoor
open Go.RowKit Go.Proofs.YtleljodcdbhifaaDoorW.PrintWords Go.Proofs.YtleljodcdbhifaaDoorW.PrintLast Go.Proofs.YtleljodcdbhifaaDoorW.PrintMore Hy
structure Bm where
  L : Int
  T : Int
  W : Int
  H : Int
  rows : List Int
def sameB (a b : Bm) : Bool := decide (a.L = b.L ∧ a.T = b.T ∧ a.W = b.W ∧ a.H = b.H ∧ a.rows = b.rows)
theorem bm_eq (a0 a1 a2 a3 : Int) (l : List Int) (b0 b1 b2 b3 : Int) (m : List Int) : sameB ⟨a0, a1, a2, a3, l⟩ ⟨b0, b1, b2, b3, m⟩ = decide (a0 = b0 ∧ a1 = b1 ∧ a2 = b2 ∧ a3 = b3 ∧ l = m) := rfl
theorem rd_at {l : List Int} {i : Nat} (h : i < l.length) : rd l (i : Int) = l[i] := by
  unfold rd
  rw [Int.toNat_natCast, List.getD_eq_getElem?_getD, List.getElem?_eq_getElem h]; rfl
theorem take_rd {l m : List Int} {k : Nat} (h1 : k < l.length) (h2 : k < m.length) (h : l.take k = m.take k) : (rd l (k : Int) = rd m (k : Int)) ↔ l.take (k + 1) = m.take (k + 1) := by
  rw [List.take_succ_eq_append_getElem h1, List.take_succ_eq_append_getElem h2, h, rd_at h1, rd_at h2]
  constructor
  · intro e; rw [e]
  · intro e
    have := List.append_cancel_left e
    simpa using this
set_option maxRecDepth 100000 in
set_option maxHeartbeats 4000000 in
theorem equal_any (l m : List Int) (A A' : Option Addr) (c c' : Nat) (w : World) (hC : Kd.C (Kd.int .u64) w A l.length l) (hC' : Kd.C (Kd.int .u64) w A' m.length m) :
    Calls Tryd.prog 42 #[.slice A l.length c, .slice A' m.length c'] w fun e w' => e = .returned (.bool (decide (l = m))) ∧ Below w.heap.size w w' := by
  have hm : l.length ≤ 9223372036854775807 := hC.2.1
  have HC := Lib.hid hC
  have HC' := Lib.hid hC'
  clear hC hC'
  go_enter Tryd.func42, Tryd.ntmps42
  by_cases hlen : l.length = m.length
  · have hne : ((l.length : Int) != (m.length : Int)) = false := by rw [hlen]; simp
    have HL := Lib.hid hlen
    have HM := Lib.hid hm
    clear hlen hm
    go_wp2_with fail
    go_loopw [13] (fun i wr => ∃ k : Nat, i = .int .i64 k ∧ k ≤ l.length ∧ l.take k = m.take k ∧ Hid (Below w.heap.size w wr)) (fun i _ => l.length - (intOf i).toNat)
    case atStart => exact ⟨0, rfl, Nat.zero_le _, rfl, Lib.hid (Below.refl _ _)⟩
    case round =>
    obtain ⟨k, rfl, hk, ht, HB⟩ := hrel
    by_cases hlt : k < l.length
    · have hlt2 : k < m.length := by rw [← HL.out]; exact hlt
      have d1 : decide (k < l.length) = true := decide_eq_true hlt
      have hT := take_rd hlt hlt2 ht
      have y0 : (0 : Int) ≤ (k : Int) := by omega
      have y1 : (k : Int) < (l.length : Int) := by omega
      have y2 : (k : Int) < (m.length : Int) := by omega
      obtain ⟨ad, hA, h1⟩ := Kd.at_int (Kd.C_below HC.out HB.out) (k : Int) y0 y1
      obtain ⟨ad', hA', h2⟩ := Kd.at_int (Kd.C_below HC'.out HB.out) (k : Int) y0 y2
      subst hA hA'
      rw [Int.toNat_natCast] at h1 h2
      have HT := Lib.hid hT
      have HK := Lib.hid hlt
      have e8 : IntKind.i64.wrap ((k : Int) + 1) = ((k + 1 : Nat) : Int) := by have := HM.out; rw [IntWalk.i64_in _ (by omega)]; omega
      clear hT ht hk hlt hlt2
      generalize rd l (k : Int) = x at *
      generalize rd m (k : Int) = y at *
      by_cases hxy : x = y
      · have hn : (x != y) = false := by simpa using hxy
        have HX := Lib.hid (HT.out.1 hxy)
        clear hxy HT
        go_wp2_with fail
        go_region
        go_wp2_with fail
        go_roundw
        case rel => exact ⟨k + 1, rfl, HK.out, HX.out, Lib.hid (bdrew HB.out)⟩
        case measure => have := HK.out; simp [intOf]; omega
      · have hn : (x != y) = true := by simpa using hxy
        have HX : Hid (¬ l = m) := Lib.hid fun e => hxy (HT.out.2 (by rw [e]))
        clear hxy HT
        go_wp2_with fail
        go_region
        go_wp2_with fail
        go_ret
        exact ⟨by rw [decide_eq_false HX.out]; rfl, bdrew HB.out⟩
    · have d1 : decide (k < l.length) = false := decide_eq_false hlt
      have HX : Hid (l = m) := Lib.hid (by
        rw [List.take_of_length_le (by omega), List.take_of_length_le (by have := HL.out; omega)] at ht
        exact ht)
      clear ht hk hlt
      go_wp2_with fail
      go_ret
      exact ⟨by rw [decide_eq_true HX.out]; rfl, HB.out⟩
  · have hne : ((l.length : Int) != (m.length : Int)) = true := by simp; omega
    have HX : Hid (¬ l = m) := Lib.hid fun e => hlen (by rw [e])
    clear hlen
    go_wp2_with fail
    go_ret
    exact ⟨by rw [decide_eq_false HX.out]; rfl, Below.refl _ _⟩
set_option maxRecDepth 100000 in
set_option maxHeartbeats 4000000 in
theorem scan_same_any (a0 a1 a2 a3 b0 b1 b2 b3 : Int) (l m : List Int) (A A' : Option Addr) (c c' : Nat) (w : World) (hC : Kd.C (Kd.int .u64) w A l.length l) (hC' : Kd.C (Kd.int .u64) w A' m.length m) :
    Calls Tryd.prog 20 #[.agg #[.int .i64 a0, .int .i64 a1, .int .i64 a2, .int .i64 a3, .slice A l.length c], .agg #[.int .i64 b0, .int .i64 b1, .int .i64 b2, .int .i64 b3, .slice A' m.length c']] w fun e w' => e = .returned (.bool (sameB ⟨a0, a1, a2, a3, l⟩ ⟨b0, b1, b2, b3, m⟩)) ∧ Below w.heap.size w w' := by
  have hu36 := Tryd.underlying36
  have hm : l.length ≤ 9223372036854775807 := hC.2.1
  have HC := Lib.hid hC
  have HC' := Lib.hid hC'
  clear hC hC'
  go_enter Tryd.func20, Tryd.ntmps20
  go_upto_region 1 with fail
  obtain ⟨w1, g, hw, hg, X1, HX1, _⟩ := new_box w #[.int .i64 a0, .int .i64 a1, .int .i64 a2, .int .i64 a3, .slice A l.length c] 36
  obtain ⟨w2, g', hw', hg', Y2, HY2, _⟩ := new_box w1 #[.int .i64 b0, .int .i64 b1, .int .i64 b2, .int .i64 b3, .slice A' m.length c'] 36
  have eg : g + 1 = g' := by rw [← hg', ← hw, World.size_alloc, hg]
  rw [hg, hw, hw', eg]
  have HB := Lib.hid (bthen' HX1.out HY2.out)
  have X2 := Lib.hid (X1.out.below HY2.out)
  have HC2 := Lib.hid (Kd.C_below HC.out HB.out)
  have HC2' := Lib.hid (Kd.C_below HC'.out HB.out)
  clear hw hg hw' hg' eg X1 HX1 HY2 HC HC'
  have p0 := X2.out.cell 0
  have p1 := X2.out.cell 1
  have p2 := X2.out.cell 2
  have p3 := X2.out.cell 3
  have p4 := X2.out.cell 4
  simp only [List.getElem?_toArray, List.getElem?_cons_zero, List.getElem?_cons_succ] at p0 p1 p2 p3 p4
  have q0 := Y2.out.cell 0
  have q1 := Y2.out.cell 1
  have q2 := Y2.out.cell 2
  have q3 := Y2.out.cell 3
  have q4 := Y2.out.cell 4
  simp only [List.getElem?_toArray, List.getElem?_cons_zero, List.getElem?_cons_succ] at q0 q1 q2 q3 q4
  by_cases h0 : a0 = b0
  rotate_left
  · have d0 : (a0 == b0) = false := by simpa using h0
    go_wp2_with fail
    go_ret
    exact ⟨by rw [bm_eq, decide_eq_false (fun h => h0 h.1)]; rfl, HB.out⟩
  have d0 : (a0 == b0) = true := by simpa using h0
  by_cases h1 : a1 = b1
  rotate_left
  · have d1 : (a1 == b1) = false := by simpa using h1
    go_wp2_with fail
    go_ret
    exact ⟨by rw [bm_eq, decide_eq_false (fun h => h1 h.2.1)]; rfl, HB.out⟩
  have d1 : (a1 == b1) = true := by simpa using h1
  by_cases h2 : a2 = b2
  rotate_left
  · have d2 : (a2 == b2) = false := by simpa using h2
    go_wp2_with fail
    go_ret
    exact ⟨by rw [bm_eq, decide_eq_false (fun h => h2 h.2.2.1)]; rfl, HB.out⟩
  have d2 : (a2 == b2) = true := by simpa using h2
  by_cases h3 : a3 = b3
  rotate_left
  · have d3 : (a3 == b3) = false := by simpa using h3
    go_wp2_with fail
    go_ret
    exact ⟨by rw [bm_eq, decide_eq_false (fun h => h3 h.2.2.2.1)]; rfl, HB.out⟩
  have d3 : (a3 == b3) = true := by simpa using h3
  go_wp2_with fail
  refine (equal_any l m A A' c c' w2 HC2.out HC2'.out).mono ?_
  rintro e w3 ⟨rfl, hb⟩
  have HB3 := Lib.hid (bthen' HB.out hb)
  clear hb p0 p1 p2 p3 p4 q0 q1 q2 q3 q4
  have HE : Hid (sameB ⟨a0, a1, a2, a3, l⟩ ⟨b0, b1, b2, b3, m⟩ = decide (l = m)) := Lib.hid (by rw [bm_eq]; exact decide_eq_decide.2 ⟨fun h => h.2.2.2.2, fun h => ⟨h0, h1, h2, h3, h⟩⟩)
  generalize decide (l = m) = r at *
  go_wp2_with fail
  go_ret
  exact ⟨by rw [HE.out]; rfl, HB3.out⟩
set_option maxRecDepth 100000 in
set_option maxHeartbeats 4000000 in
theorem ref_same_any (a0 a1 a2 a3 b0 b1 b2 b3 : Int) (l m : List Int) (A A' : Option Addr) (c c' : Nat) (w : World) (hC : Kd.C (Kd.int .u64) w A l.length l) (hC' : Kd.C (Kd.int .u64) w A' m.length m) :
    Calls Tryd.prog 18 #[.agg #[.int .i64 a0, .int .i64 a1, .int .i64 a2, .int .i64 a3, .slice A l.length c], .agg #[.int .i64 b0, .int .i64 b1, .int .i64 b2, .int .i64 b3, .slice A' m.length c']] w fun e w' => e = .returned (.bool (sameB ⟨a0, a1, a2, a3, l⟩ ⟨b0, b1, b2, b3, m⟩)) ∧ Below w.heap.size w w' := by
  have hu36 := Tryd.underlying36
  have hm : l.length ≤ 9223372036854775807 := hC.2.1
  have HC := Lib.hid hC
  have HC' := Lib.hid hC'
  clear hC hC'
  go_enter Tryd.func18, Tryd.ntmps18
  go_upto_region 1 with fail
  obtain ⟨w1, g, hw, hg, X1, HX1, _⟩ := new_box w #[.int .i64 a0, .int .i64 a1, .int .i64 a2, .int .i64 a3, .slice A l.length c] 36
  obtain ⟨w2, g', hw', hg', Y2, HY2, _⟩ := new_box w1 #[.int .i64 b0, .int .i64 b1, .int .i64 b2, .int .i64 b3, .slice A' m.length c'] 36
  have eg : g + 1 = g' := by rw [← hg', ← hw, World.size_alloc, hg]
  rw [hg, hw, hw', eg]
  have HB := Lib.hid (bthen' HX1.out HY2.out)
  have X2 := Lib.hid (X1.out.below HY2.out)
  have HC2 := Lib.hid (Kd.C_below HC.out HB.out)
  have HC2' := Lib.hid (Kd.C_below HC'.out HB.out)
  clear hw hg hw' hg' eg X1 HX1 HY2 HC HC'
  have p0 := X2.out.cell 0
  have p1 := X2.out.cell 1
  have p2 := X2.out.cell 2
  have p3 := X2.out.cell 3
  have p4 := X2.out.cell 4
  simp only [List.getElem?_toArray, List.getElem?_cons_zero, List.getElem?_cons_succ] at p0 p1 p2 p3 p4
  have q0 := Y2.out.cell 0
  have q1 := Y2.out.cell 1
  have q2 := Y2.out.cell 2
  have q3 := Y2.out.cell 3
  have q4 := Y2.out.cell 4
  simp only [List.getElem?_toArray, List.getElem?_cons_zero, List.getElem?_cons_succ] at q0 q1 q2 q3 q4
  by_cases h0 : a0 = b0
  rotate_left
  · have d0 : (a0 != b0) = true := by simpa using h0
    go_wp2_with fail
    go_ret
    exact ⟨by rw [bm_eq, decide_eq_false (fun h => h0 h.1)]; rfl, HB.out⟩
  have d0 : (a0 != b0) = false := by simpa using h0
  by_cases h1 : a1 = b1
  rotate_left
  · have d1 : (a1 != b1) = true := by simpa using h1
    go_wp2_with fail
    go_ret
    exact ⟨by rw [bm_eq, decide_eq_false (fun h => h1 h.2.1)]; rfl, HB.out⟩
  have d1 : (a1 != b1) = false := by simpa using h1
  by_cases h2 : a2 = b2
  rotate_left
  · have d2 : (a2 != b2) = true := by simpa using h2
    go_wp2_with fail
    go_ret
    exact ⟨by rw [bm_eq, decide_eq_false (fun h => h2 h.2.2.1)]; rfl, HB.out⟩
  have d2 : (a2 != b2) = false := by simpa using h2
  by_cases h3 : a3 = b3
  rotate_left
  · have d3 : (a3 != b3) = true := by simpa using h3
    go_wp2_with fail
    go_ret
    exact ⟨by rw [bm_eq, decide_eq_false (fun h => h3 h.2.2.2.1)]; rfl, HB.out⟩
  have d3 : (a3 != b3) = false := by simpa using h3
  by_cases hlen : l.length = m.length
  rotate_left
  · have d4 : ((l.length : Int) != (m.length : Int)) = true := by simp; omega
    go_wp2_with fail
    go_ret
    exact ⟨by rw [bm_eq, decide_eq_false (fun h => hlen (by rw [h.2.2.2.2]))]; rfl, HB.out⟩
  have d4 : ((l.length : Int) != (m.length : Int)) = false := by rw [hlen]; simp
  have HL := Lib.hid hlen
  have HM := Lib.hid hm
  have HE : Hid (sameB ⟨a0, a1, a2, a3, l⟩ ⟨b0, b1, b2, b3, m⟩ = decide (l = m)) := Lib.hid (by rw [bm_eq]; exact decide_eq_decide.2 ⟨fun h => h.2.2.2.2, fun h => ⟨h0, h1, h2, h3, h⟩⟩)
  clear hlen hm h0 h1 h2 h3
  go_wp2_with fail
  clear p0 p1 p2 p3 p4 q0 q1 q2 q3 q4
  go_loopw [5] (fun i wr => ∃ k : Nat, i = .int .i64 k ∧ k ≤ l.length ∧ l.take k = m.take k ∧ Hid (Below w2.heap.size w2 wr)) (fun i _ => l.length - (intOf i).toNat)
  case atStart => exact ⟨0, rfl, Nat.zero_le _, rfl, Lib.hid (Below.refl _ _)⟩
  case round =>
  obtain ⟨k, rfl, hk, ht, HBr⟩ := hrel
  have Xr := Lib.hid (X2.out.below HBr.out)
  have Yr := Lib.hid (Y2.out.below HBr.out)
  have p4 := Xr.out.cell 4
  have q4 := Yr.out.cell 4
  simp only [List.getElem?_toArray, List.getElem?_cons_zero, List.getElem?_cons_succ] at p4 q4
  have HBB := Lib.hid (bthen' HB.out HBr.out)
  by_cases hlt : k < l.length
  · have hlt2 : k < m.length := by rw [← HL.out]; exact hlt
    have d1 : decide (k < l.length) = true := decide_eq_true hlt
    have hT := take_rd hlt hlt2 ht
    have y0 : (0 : Int) ≤ (k : Int) := by omega
    have y1 : (k : Int) < (l.length : Int) := by omega
    have y2 : (k : Int) < (m.length : Int) := by omega
    obtain ⟨ad, hA, h1⟩ := Kd.at_int (Kd.C_below HC2.out HBr.out) (k : Int) y0 y1
    obtain ⟨ad', hA', h2⟩ := Kd.at_int (Kd.C_below HC2'.out HBr.out) (k : Int) y0 y2
    subst hA hA'
    rw [Int.toNat_natCast] at h1 h2
    have HT := Lib.hid hT
    have HK := Lib.hid hlt
    have e8 : IntKind.i64.wrap ((k : Int) + 1) = ((k + 1 : Nat) : Int) := by have := HM.out; rw [IntWalk.i64_in _ (by omega)]; omega
    clear hT ht hk hlt hlt2
    generalize rd l (k : Int) = x at *
    generalize rd m (k : Int) = y at *
    by_cases hxy : x = y
    · have hn : (x != y) = false := by simpa using hxy
      have HX := Lib.hid (HT.out.1 hxy)
      clear hxy HT
      go_wp2_with fail
      go_region
      go_wp2_with fail
      go_roundw
      case rel => exact ⟨k + 1, rfl, HK.out, HX.out, Lib.hid (bdrew HBr.out)⟩
      case measure => have := HK.out; simp [intOf]; omega
    · have hn : (x != y) = true := by simpa using hxy
      have HX : Hid (¬ l = m) := Lib.hid fun e => hxy (HT.out.2 (by rw [e]))
      clear hxy HT
      go_wp2_with fail
      go_region
      go_wp2_with fail
      go_ret
      exact ⟨by rw [HE.out, decide_eq_false HX.out]; rfl, bdrew HBB.out⟩
  · have d1 : decide (k < l.length) = false := decide_eq_false hlt
    have HX : Hid (l = m) := Lib.hid (by
      rw [List.take_of_length_le (by omega), List.take_of_length_le (by have := HL.out; omega)] at ht
      exact ht)
    clear ht hk hlt
    go_wp2_with fail
    go_ret
    exact ⟨by rw [HE.out, decide_eq_true HX.out]; rfl, HBB.out⟩
def Hy.abugidaref11_Same.f (k : Nat) (a0 a1 a2 a3 : Int) (l : List Int) (b0 b1 b2 b3 : Int) (m : List Int) : Option Bool := some (sameB ⟨a0, a1, a2, a3, l⟩ ⟨b0, b1, b2, b3, m⟩)
theorem Hy.abugidaref11_Same.mono : ∀ a0 a1 a2 a3 a4 a5 a6 a7 a8 a9 k, LeO (abugidaref11_Same.f k a0 a1 a2 a3 a4 a5 a6 a7 a8 a9) (abugidaref11_Same.f (k + 1) a0 a1 a2 a3 a4 a5 a6 a7 a8 a9) := fun _ _ _ _ _ _ _ _ _ _ _ => LeO.refl _
theorem Hy.abugidaref11_Same.calls (k : Nat) (a0 a1 a2 a3 : Int) (A : Option Addr) (c : Nat) (l : List Int) (b0 b1 b2 b3 : Int) (A' : Option Addr) (c' : Nat) (m : List Int) (r : Bool) (w : World) (hr : Kd.C (Kd.int .u64) w A l.length l) (hc : l.length ≤ c) (hr' : Kd.C (Kd.int .u64) w A' m.length m) (hc' : m.length ≤ c') (h : abugidaref11_Same.f k a0 a1 a2 a3 l b0 b1 b2 b3 m = some r) :
    Calls Tryd.prog 18 #[.agg #[.int .i64 a0, .int .i64 a1, .int .i64 a2, .int .i64 a3, .slice A l.length c], .agg #[.int .i64 b0, .int .i64 b1, .int .i64 b2, .int .i64 b3, .slice A' m.length c']] w fun e w' => e = .returned (.bool r) ∧ Below w.heap.size w w' := by
  obtain rfl := Option.some.inj h
  exact ref_same_any a0 a1 a2 a3 b0 b1 b2 b3 l m A A' c c' w hr hr'
def Hy.scan_Same.f (k : Nat) (a0 a1 a2 a3 : Int) (l : List Int) (b0 b1 b2 b3 : Int) (m : List Int) : Option Bool := some (sameB ⟨a0, a1, a2, a3, l⟩ ⟨b0, b1, b2, b3, m⟩)
theorem Hy.scan_Same.mono : ∀ a0 a1 a2 a3 a4 a5 a6 a7 a8 a9 k, LeO (scan_Same.f k a0 a1 a2 a3 a4 a5 a6 a7 a8 a9) (scan_Same.f (k + 1) a0 a1 a2 a3 a4 a5 a6 a7 a8 a9) := fun _ _ _ _ _ _ _ _ _ _ _ => LeO.refl _
theorem Hy.scan_Same.calls (k : Nat) (a0 a1 a2 a3 : Int) (A : Option Addr) (c : Nat) (l : List Int) (b0 b1 b2 b3 : Int) (A' : Option Addr) (c' : Nat) (m : List Int) (r : Bool) (w : World) (hr : Kd.C (Kd.int .u64) w A l.length l) (hc : l.length ≤ c) (hr' : Kd.C (Kd.int .u64) w A' m.length m) (hc' : m.length ≤ c') (h : scan_Same.f k a0 a1 a2 a3 l b0 b1 b2 b3 m = some r) :
    Calls Tryd.prog 20 #[.agg #[.int .i64 a0, .int .i64 a1, .int .i64 a2, .int .i64 a3, .slice A l.length c], .agg #[.int .i64 b0, .int .i64 b1, .int .i64 b2, .int .i64 b3, .slice A' m.length c']] w fun e w' => e = .returned (.bool r) ∧ Below w.heap.size w w' := by
  obtain rfl := Option.some.inj h
  exact scan_same_any a0 a1 a2 a3 b0 b1 b2 b3 l m A A' c c' w hr hr'
end Go.Proofs.YtleljodcdbhifaaDoor
/- Whether a bitmap is right. -/
set_option linter.unusedVariables false
set_option linter.unusedSimpArgs false
namespace Go.Proofs.YtleljodcdbhifaaDoor
open Go.RowKit Go.Proofs.YtleljodcdbhifaaDoorW.PrintWords Go.Proofs.YtleljodcdbhifaaDoorW.PrintLast Go.Proofs.YtleljodcdbhifaaDoorW.PrintMore Hy
def fitB (W : Int) (r : Int) : Bool := decide (W < (Lib.bitLen r.toNat : Int))
def zeroB (L T W H : Int) (l : List Int) : Bool := decide (L = 0 ∧ T = 0 ∧ W = 0 ∧ H = 0 ∧ l.length = 0)
def okB (L T W H : Int) (l : List Int) : Bool := decide ((1 ≤ W ∧ W ≤ 64) ∧ (1 ≤ H ∧ H ≤ 64) ∧ (l.length : Int) = H ∧ (-10000 ≤ L ∧ L ≤ 10001 - W) ∧ (-10000 ≤ T ∧ T ≤ 10001 - H)) && !l.any (fitB W)
def rightB (L T W H : Int) (l : List Int) : Bool := zeroB L T W H l || okB L T W H l
def Hy.scan_Right.f (L T W H : Int) (l : List Int) : Option Bool := if ∀ r ∈ l, u64 r then some (rightB L T W H l) else none
theorem within_any (n a b : Int) (w : World) : Calls Tryd.prog 38 #[.int .i64 n, .int .i64 a, .int .i64 b] w fun e w' => e = .returned (.bool (decide (a ≤ n ∧ n ≤ b))) ∧ w = w' := by
  by_cases h1 : a ≤ n
  · have d1 : decide (a ≤ n) = true := decide_eq_true h1
    have E : decide (a ≤ n ∧ n ≤ b) = decide (n ≤ b) := by simp [h1]
    rw [E]
    clear E h1
    go_enter Tryd.func38, Tryd.ntmps38
    go_wp2
    go_ret
    exact ⟨rfl, rfl⟩
  · have d1 : decide (a ≤ n) = false := decide_eq_false h1
    have E : decide (a ≤ n ∧ n ≤ b) = false := decide_eq_false (fun h => h1 h.1)
    rw [E]
    clear E h1
    go_enter Tryd.func38, Tryd.ntmps38
    go_wp2
    go_ret
    exact ⟨rfl, rfl⟩
theorem fit_any (r W : Int) (g : Nat) (w : World) (hr : u64 r) (hc : w.cell? ⟨g, 2, none⟩ = some (.int .i64 W)) :
    Calls Tryd.prog 40 #[.int .u64 r, .pointer (some ⟨g, 0, none⟩)] w fun e w' => e = .returned (.bool (fitB W r)) ∧ Below w.heap.size w w' := by
  have h := fun w => Tryd.bits_Len64 r w hr.1 hr.2
  generalize hn : Lib.bitLen r.toNat = n at h
  have E : fitB W r = decide (W < (n : Int)) := by unfold fitB; rw [hn]
  rw [E]
  have HH := Lib.hid h
  clear E hn h hr
  go_enter Tryd.func40, Tryd.ntmps40
  go_wp2_with fail
  go_quiet ((go_at_call 41; exact Calls.quiet_of_same (HH.out _)))
  go_wp2
  go_ret
  exact ⟨rfl, bdrewN (Below.refl _ _) _⟩
theorem same_zero (L T W H : Int) (l : List Int) : scan_Same.f 1 L T W H l 0 0 0 0 [] = some (zeroB L T W H l) := by
  unfold scan_Same.f zeroB sameB
  congr 1
  exact decide_eq_decide.2 ⟨fun h => ⟨h.1, h.2.1, h.2.2.1, h.2.2.2.1, by have e : l = [] := h.2.2.2.2; rw [e]; rfl⟩, fun h => ⟨h.1, h.2.1, h.2.2.1, h.2.2.2.1, List.length_eq_zero_iff.1 h.2.2.2.2⟩⟩
set_option maxRecDepth 100000 in
set_option maxHeartbeats 4000000 in
theorem Hy.scan_Right.calls (L T W H : Int) (A : Option Addr) (c : Nat) (l : List Int) (r : Bool) (w : World) (hr : Kd.C (Kd.int .u64) w A l.length l) (hc : l.length ≤ c) (h : scan_Right.f L T W H l = some r) :
    Calls Tryd.prog 19 #[.agg #[.int .i64 L, .int .i64 T, .int .i64 W, .int .i64 H, .slice A l.length c]] w fun e w' => e = .returned (.bool r) ∧ Below w.heap.size w w' := by
  have hu : ∀ r ∈ l, u64 r := by
    by_cases hu : ∀ r ∈ l, u64 r
    · exact hu
    · unfold scan_Right.f at h; rw [if_neg hu] at h; cases h
  have R := Lib.hid (show r = (zeroB L T W H l || okB L T W H l) by unfold scan_Right.f at h; rw [if_pos hu] at h; exact (Option.some.inj h).symm)
  clear h
  have hB := Blk.new w #[.int .i64 L, .int .i64 T, .int .i64 W, .int .i64 H, .slice A l.length c] 36 rfl
  have B := Lib.hid hB
  have H0 := Lib.hid (balloc (Below.refl w.heap.size w) (.cells #[.int .i64 L, .int .i64 T, .int .i64 W, .int .i64 H, .slice A l.length c] 36))
  have c0 := hB.cell 0
  have c1 := hB.cell 1
  have c2 := hB.cell 2
  have c3 := hB.cell 3
  have c4 := hB.cell 4
  simp only [List.getElem?_toArray, List.getElem?_cons_zero, List.getElem?_cons_succ] at c0 c1 c2 c3 c4
  clear hB
  have hu36 := Tryd.underlying36
  have HC := Lib.hid hr
  have HL := Lib.hid hc
  have HU := Lib.hid hu
  clear hr hc hu
  go_enter Tryd.func19, Tryd.ntmps19
  go_wp2_with fail
  refine (scan_Same.calls 1 L T W H A c l 0 0 0 0 none 0 [] (zeroB L T W H l) _ (Kd.C_below HC.out H0.out) HL.out (Kd.C_nil _ _) (Nat.le_refl _) (same_zero L T W H l)).mono ?_
  rintro e w2 ⟨rfl, hb⟩
  have HB2 := Lib.hid (bthen' H0.out hb)
  have hB := B.out.below hb
  clear c0 c1 c2 c3 c4
  have k0 := hB.cell 0
  have k1 := hB.cell 1
  have k2 := hB.cell 2
  have k3 := hB.cell 3
  have k4 := hB.cell 4
  simp only [List.getElem?_toArray, List.getElem?_cons_zero, List.getElem?_cons_succ] at k0 k1 k2 k3 k4
  clear hB hb B H0
  obtain ⟨g, hg⟩ : ∃ g, g = w.heap.size := ⟨_, rfl⟩
  rw [← hg] at k0 k1 k2 k3 k4 ⊢
  have NG := Lib.hid hg
  clear hg
  have hz : zeroB L T W H l = true ∨ zeroB L T W H l = false := by cases zeroB L T W H l <;> simp
  rcases hz with hz | hz
  · rw [hz]
    have HZ := Lib.hid hz
    clear hz
    go_wp2_with fail
    go_ret
    exact ⟨ret_bool (by rw [R.out, HZ.out]; rfl), HB2.out⟩
  · rw [hz]
    replace R := Lib.hid (show r = okB L T W H l by rw [R.out, hz, Bool.false_or])
    clear hz
    by_cases c1 : 1 ≤ W ∧ W ≤ 64
    · have D1 := Lib.hid (decide_eq_true (p := 1 ≤ W ∧ W ≤ 64) c1)
      have bW0 : 1 ≤ W := c1.1
      have bW1 : W ≤ 64 := c1.2
      by_cases c2 : 1 ≤ H ∧ H ≤ 64
      · have D2 := Lib.hid (decide_eq_true (p := 1 ≤ H ∧ H ≤ 64) c2)
        have bH0 : 1 ≤ H := c2.1
        have bH1 : H ≤ 64 := c2.2
        by_cases c3 : (l.length : Int) = H
        · have D3 := Lib.hid (decide_eq_true (p := (l.length : Int) = H) c3)
          have e3 : ((l.length : Int) == H) = true := by simpa using c3
          by_cases c4 : -10000 ≤ L ∧ L ≤ 10001 - W
          · have D4 := Lib.hid (decide_eq_true (p := -10000 ≤ L ∧ L ≤ 10001 - W) c4)
            by_cases c5 : -10000 ≤ T ∧ T ≤ 10001 - H
            · have D5 := Lib.hid (decide_eq_true (p := -10000 ≤ T ∧ T ≤ 10001 - H) c5)
              have E : okB L T W H l = !l.any (fitB W) := by unfold okB; rw [decide_eq_true (p := _ ∧ _) ⟨c1, c2, c3, c4, c5⟩, Bool.true_and]
              have EE := Lib.hid E
              have hfit := any_fit (fitB W) l A c (.pointer (some ⟨g, 0, none⟩)) w2 (Kd.C_below HC.out HB2.out) (fun x hx w3 hb3 => fit_any x W g w3 (HU.out x hx) (pw_cell_below hb3 k2))
              have HF := Lib.hid hfit
              generalize l.any (fitB W) = b at *
              clear E hfit c1 c2 c3 c4 c5
              go_wp2_with fail
              refine (within_any _ _ _ _).mono ?_
              rintro e w' ⟨rfl, rfl⟩
              rw [D1.out]
              go_wp2_with fail
              refine (within_any _ _ _ _).mono ?_
              rintro e w' ⟨rfl, rfl⟩
              rw [D2.out]
              go_wp2_with fail
              refine (within_any _ _ _ _).mono ?_
              rintro e w' ⟨rfl, rfl⟩
              rw [D4.out]
              go_wp2_with fail
              refine (within_any _ _ _ _).mono ?_
              rintro e w' ⟨rfl, rfl⟩
              rw [D5.out]
              go_wp2_with fail
              refine HF.out.mono ?_
              rintro e w4 ⟨rfl, hb4⟩
              go_wp2_with fail
              go_ret
              exact ⟨ret_bool (by rw [R.out, EE.out]), bthen' HB2.out hb4⟩
            · have D5 := Lib.hid (decide_eq_false (p := -10000 ≤ T ∧ T ≤ 10001 - H) c5)
              have E : okB L T W H l = false := by unfold okB; rw [decide_eq_false (p := _ ∧ _) (fun h => c5 h.2.2.2.2), Bool.false_and]
              have EE := Lib.hid E
              clear E c1 c2 c3 c4 c5
              go_wp2_with fail
              refine (within_any _ _ _ _).mono ?_
              rintro e w' ⟨rfl, rfl⟩
              rw [D1.out]
              go_wp2_with fail
              refine (within_any _ _ _ _).mono ?_
              rintro e w' ⟨rfl, rfl⟩
              rw [D2.out]
              go_wp2_with fail
              refine (within_any _ _ _ _).mono ?_
              rintro e w' ⟨rfl, rfl⟩
              rw [D4.out]
              go_wp2_with fail
              refine (within_any _ _ _ _).mono ?_
              rintro e w' ⟨rfl, rfl⟩
              rw [D5.out]
              go_wp2_with fail
              go_ret
              exact ⟨ret_bool (by rw [R.out, EE.out]), HB2.out⟩
          · have D4 := Lib.hid (decide_eq_false (p := -10000 ≤ L ∧ L ≤ 10001 - W) c4)
            have E : okB L T W H l = false := by unfold okB; rw [decide_eq_false (p := _ ∧ _) (fun h => c4 h.2.2.2.1), Bool.false_and]
            have EE := Lib.hid E
            clear E c1 c2 c3 c4
            go_wp2_with fail
            refine (within_any _ _ _ _).mono ?_
            rintro e w' ⟨rfl, rfl⟩
            rw [D1.out]
            go_wp2_with fail
            refine (within_any _ _ _ _).mono ?_
            rintro e w' ⟨rfl, rfl⟩
            rw [D2.out]
            go_wp2_with fail
            refine (within_any _ _ _ _).mono ?_
            rintro e w' ⟨rfl, rfl⟩
            rw [D4.out]
            go_wp2_with fail
            go_ret
            exact ⟨ret_bool (by rw [R.out, EE.out]), HB2.out⟩
        · have D3 := Lib.hid (decide_eq_false (p := (l.length : Int) = H) c3)
          have e3 : ((l.length : Int) == H) = false := by simpa using c3
          have E : okB L T W H l = false := by unfold okB; rw [decide_eq_false (p := _ ∧ _) (fun h => c3 h.2.2.1), Bool.false_and]
          have EE := Lib.hid E
          clear E c1 c2 c3
          go_wp2_with fail
          refine (within_any _ _ _ _).mono ?_
          rintro e w' ⟨rfl, rfl⟩
          rw [D1.out]
          go_wp2_with fail
          refine (within_any _ _ _ _).mono ?_
          rintro e w' ⟨rfl, rfl⟩
          rw [D2.out]
          go_wp2_with fail
          go_ret
          exact ⟨ret_bool (by rw [R.out, EE.out]), HB2.out⟩
      · have D2 := Lib.hid (decide_eq_false (p := 1 ≤ H ∧ H ≤ 64) c2)
        have E : okB L T W H l = false := by unfold okB; rw [decide_eq_false (p := _ ∧ _) (fun h => c2 h.2.1), Bool.false_and]
        have EE := Lib.hid E
        clear E c1 c2
        go_wp2_with fail
        refine (within_any _ _ _ _).mono ?_
        rintro e w' ⟨rfl, rfl⟩
        rw [D1.out]
        go_wp2_with fail
        refine (within_any _ _ _ _).mono ?_
        rintro e w' ⟨rfl, rfl⟩
        rw [D2.out]
        go_wp2_with fail
        go_ret
        exact ⟨ret_bool (by rw [R.out, EE.out]), HB2.out⟩
    · have D1 := Lib.hid (decide_eq_false (p := 1 ≤ W ∧ W ≤ 64) c1)
      have E : okB L T W H l = false := by unfold okB; rw [decide_eq_false (p := _ ∧ _) (fun h => c1 h.1), Bool.false_and]
      have EE := Lib.hid E
      clear E c1
      go_wp2_with fail
      refine (within_any _ _ _ _).mono ?_
      rintro e w' ⟨rfl, rfl⟩
      rw [D1.out]
      go_wp2_with fail
      go_ret
      exact ⟨ret_bool (by rw [R.out, EE.out]), HB2.out⟩
end Go.Proofs.YtleljodcdbhifaaDoor
/- The smallest bitmap with the same pixels. -/
set_option linter.unusedVariables false
set_option linter.unusedSimpArgs false
namespace Go.Proofs.YtleljodcdbhifaaDoor
open Go.RowKit Go.Proofs.YtleljodcdbhifaaDoorW.PrintWords Go.Proofs.YtleljodcdbhifaaDoorW.PrintLast Go.Proofs.YtleljodcdbhifaaDoorW.PrintMore Hy
attribute [local go_sem ↓] Go.wp_at_zero Go.wp_at_succ
/-- the pixels of all rows -/
def orN : List Int → Nat
  | [] => 0
  | r :: rs => r.toNat ||| orN rs
def nz (r : Int) : Bool := decide (r ≠ 0)
/-- the last row that isn't empty -/
def lastNz : List Int → Nat
  | [] => 0
  | r :: rs => if orN rs = 0 then 0 else lastNz rs + 1
def firstNz (l : List Int) : Nat := (ixOf nz l).toNat
def Bm.zero : Bm := ⟨0, 0, 0, 0, []⟩
def usedOf (b : Bm) : Nat := if rightB b.L b.T b.W b.H b.rows = true then orN b.rows else 0
def cutRows (l : List Int) : List Int := ((l.drop (firstNz l)).take (lastNz l + 1 - firstNz l)).map fun r => (r / 2 ^ Lib.ctz 64 (orN l) : Int)
def trimB (b : Bm) : Bm :=
  if usedOf b = 0 then Bm.zero
  else ⟨b.L + Lib.ctz 64 (orN b.rows), b.T + firstNz b.rows, Lib.bitLen (orN b.rows) - Lib.ctz 64 (orN b.rows), lastNz b.rows - firstNz b.rows + 1, cutRows b.rows⟩
theorem orN_lt (l : List Int) (h : ∀ r ∈ l, u64 r) : orN l < 18446744073709551616 := by
  induction l with
  | nil => decide
  | cons r rs ih =>
    have h1 := ih (fun x hx => h x (List.mem_cons_of_mem _ hx))
    have h2 := h r List.mem_cons_self
    unfold orN
    unfold u64 at h2
    exact Nat.or_lt_two_pow (n := 64) (by omega) (by omega)
theorem orN_append (a b : List Int) : orN (a ++ b) = orN a ||| orN b := by
  induction a with
  | nil => simp [orN]
  | cons r rs ih => simp only [List.cons_append, orN, ih, Nat.or_assoc]
theorem orN_zero {l : List Int} : orN l = 0 ↔ ∀ r ∈ l, r.toNat = 0 := by
  induction l with
  | nil => simp [orN]
  | cons r rs ih =>
    unfold orN
    rw [Nat.or_eq_zero_iff, ih]
    simp
theorem bitLen_le (x : Nat) : Lib.bitLen x ≤ 64 := by
  unfold Lib.bitLen
  generalize 64 = k
  induction k generalizing x with
  | zero => simp [Lib.bitLenAux]
  | succ k ih =>
    unfold Lib.bitLenAux
    split
    · omega
    · have := ih (x / 2); omega
theorem last_spec (l : List Int) (h : orN l ≠ 0) : lastNz l < l.length ∧ (l.getD (lastNz l) 0).toNat ≠ 0 ∧ ∀ i, lastNz l < i → (l.getD i 0).toNat = 0 := by
  induction l with
  | nil => exact absurd rfl h
  | cons r rs ih =>
    unfold lastNz
    by_cases h0 : orN rs = 0
    · rw [if_pos h0]
      refine ⟨by simp, ?_, ?_⟩
      · unfold orN at h
        rw [h0, Nat.or_zero] at h
        simpa using h
      · intro i hi
        obtain ⟨i, rfl⟩ : ∃ j, i = j + 1 := ⟨i - 1, by omega⟩
        rw [List.getD_cons_succ]
        have hz := orN_zero.1 h0
        rcases Nat.lt_or_ge i rs.length with hl | hl
        · rw [List.getD_eq_getElem?_getD, List.getElem?_eq_getElem hl]
          exact hz _ (List.getElem_mem hl)
        · rw [List.getD_eq_getElem?_getD, List.getElem?_eq_none hl]; rfl
    · rw [if_neg h0]
      obtain ⟨a, b, c⟩ := ih h0
      refine ⟨by simpa using a, by simpa using b, ?_⟩
      intro i hi
      obtain ⟨i, rfl⟩ : ∃ j, i = j + 1 := ⟨i - 1, by omega⟩
      rw [List.getD_cons_succ]
      exact c i (by omega)
theorem first_spec (l : List Int) (hu : ∀ r ∈ l, u64 r) (h : orN l ≠ 0) : ixOf nz l = (firstNz l : Int) ∧ firstNz l ≤ lastNz l ∧ (l.getD (firstNz l) 0).toNat ≠ 0 ∧ ∀ i, i < firstNz l → (l.getD i 0).toNat = 0 := by
  induction l with
  | nil => exact absurd rfl h
  | cons r rs ih =>
    unfold firstNz ixOf lastNz
    have hr := hu r List.mem_cons_self
    unfold u64 at hr
    by_cases hz : r = 0
    · have e : nz r = false := by unfold nz; simp [hz]
      have h0 : orN rs ≠ 0 := by
        unfold orN at h
        rw [hz] at h
        simpa using h
      obtain ⟨a, b, c, d⟩ := ih (fun x hx => hu x (List.mem_cons_of_mem _ hx)) h0
      rw [e, if_neg h0]
      simp only [Bool.false_eq_true, if_false]
      rw [a, if_neg (by omega)]
      have e2 : ((firstNz rs : Int) + 1).toNat = firstNz rs + 1 := by omega
      rw [e2]
      refine ⟨by omega, by omega, by rw [List.getD_cons_succ]; exact c, ?_⟩
      intro i hi
      cases i with
      | zero => rw [hz]; rfl
      | succ i => rw [List.getD_cons_succ]; exact d i (by omega)
    · have e : nz r = true := by unfold nz; simp [hz]
      rw [e]
      simp only [if_true]
      refine ⟨rfl, by simp, ?_, ?_⟩
      · show r.toNat ≠ 0; omega
      · intro i hi; simp at hi
theorem or_at (l : List Int) (k : Nat) (hk : k < l.length) : orN (l.take (k + 1)) = orN (l.take k) ||| (l.getD k 0).toNat := by
  rw [List.take_succ_eq_append_getElem hk, orN_append, List.getD_eq_getElem?_getD, List.getElem?_eq_getElem hk]
  simp [orN]
theorem getD_u64 {l : List Int} (h : ∀ r ∈ l, u64 r) (k : Nat) : u64 (l.getD k 0) := by
  rcases Nat.lt_or_ge k l.length with hk | hk
  · rw [List.getD_eq_getElem?_getD, List.getElem?_eq_getElem hk]
    exact h _ (List.getElem_mem hk)
  · rw [List.getD_eq_getElem?_getD, List.getElem?_eq_none hk]
    exact ⟨by decide, by decide⟩
theorem nz_any (r : Int) (w : World) : Calls Tryd.prog 44 #[.int .u64 r] w fun e w' => e = .returned (.bool (nz r)) ∧ Below w.heap.size w w' := by
  have E : nz r = (r != 0) := by unfold nz; simp [bne, BEq.beq]
  rw [E]
  go_enter Tryd.func44, Tryd.ntmps44
  go_wp2
  go_ret
  exact ⟨rfl, Below.refl _ _⟩
set_option maxRecDepth 100000 in
set_option maxHeartbeats 40000000 in
theorem trim_any (L T W H : Int) (A : Option Addr) (c : Nat) (l : List Int) (w : World) (hT : Tab w) (hr : Kd.C (Kd.int .u64) w A l.length l) (hc : l.length ≤ c) (hu : ∀ r ∈ l, u64 r) :
    Calls Tryd.prog 21 #[.agg #[.int .i64 L, .int .i64 T, .int .i64 W, .int .i64 H, .slice A l.length c]] w fun e w' => ∃ v, e = .returned (.agg #[.int .i64 (trimB ⟨L, T, W, H, l⟩).L, .int .i64 (trimB ⟨L, T, W, H, l⟩).T, .int .i64 (trimB ⟨L, T, W, H, l⟩).W, .int .i64 (trimB ⟨L, T, W, H, l⟩).H, v]) ∧ Kd.R (Kd.int .u64) 59 w' w.heap.size (fun _ => True) v (trimB ⟨L, T, W, H, l⟩).rows ∧ Below w.heap.size w w' := by
  have hu36 := Tryd.underlying36
  have HT := Lib.hid hT
  have HC := Lib.hid hr
  have HL := Lib.hid hc
  have HU := Lib.hid hu
  clear hr hc hu hT
  go_enter Tryd.func21, Tryd.ntmps21
  go_upto_region 1 with fail
  obtain ⟨w1, gb, hw, hg, B1, HB1, HN1⟩ := new_box w #[.int .i64 L, .int .i64 T, .int .i64 W, .int .i64 H, .slice A l.length c] 36
  obtain ⟨w2, gr, hw2, hg2, B2, HB2, HN2⟩ := new_box w1 #[.int .i64 0, .int .i64 0, .int .i64 0, .int .i64 0, .slice none 0 0] 36
  have eg : gb + 1 = gr := by rw [← hg2, ← hw, World.size_alloc, hg]
  rw [hw, hw2, hg, eg]
  have HB := Lib.hid (bthen' HB1.out HB2.out)
  have BB := Lib.hid (B1.out.below HB2.out)
  have HG := Lib.hid (show w.heap.size ≤ gb by omega)
  have HG2 := Lib.hid (show w.heap.size ≤ gr by omega)
  have m1 : gb ≠ gr := by omega
  clear hw hw2 hg hg2 eg
  have k0 := BB.out.cell 0
  have k1 := BB.out.cell 1
  have k2 := BB.out.cell 2
  have k3 := BB.out.cell 3
  have k4 := BB.out.cell 4
  simp only [List.getElem?_toArray, List.getElem?_cons_zero, List.getElem?_cons_succ] at k0 k1 k2 k3 k4
  go_wp2_with fail
  refine (scan_Right.calls L T W H A c l (rightB L T W H l) w2 (Kd.C_below HC.out HB.out) HL.out (by unfold scan_Right.f; rw [if_pos HU.out])).mono ?_
  rintro e w3 ⟨rfl, hb⟩
  have HB3 := Lib.hid (bthen' HB.out hb)
  have BB3 := Lib.hid (BB.out.below hb)
  have BR3 := Lib.hid (B2.out.below hb)
  clear hb k0 k1 k2 k3 k4
  have k0 := BB3.out.cell 0
  have k1 := BB3.out.cell 1
  have k2 := BB3.out.cell 2
  have k3 := BB3.out.cell 3
  have k4 := BB3.out.cell 4
  have r0 := BR3.out.cell 0
  have r1 := BR3.out.cell 1
  have r2 := BR3.out.cell 2
  have r3 := BR3.out.cell 3
  have r4 := BR3.out.cell 4
  simp only [List.getElem?_toArray, List.getElem?_cons_zero, List.getElem?_cons_succ] at k0 k1 k2 k3 k4 r0 r1 r2 r3 r4
  have z0 := BR3.out.frozen 0
  have z1 := BR3.out.frozen 1
  have z2 := BR3.out.frozen 2
  have z3 := BR3.out.frozen 3
  have z4 := BR3.out.frozen 4
  have zero_end : usedOf ⟨L, T, W, H, l⟩ = 0 → trimB ⟨L, T, W, H, l⟩ = Bm.zero := fun h => by unfold trimB; rw [if_pos h]
  have ZE := Lib.hid zero_end
  clear zero_end
  have hrt : rightB L T W H l = true ∨ rightB L T W H l = false := by cases rightB L T W H l <;> simp
  rcases hrt with hrt | hrt
  case inr =>
    rw [hrt]
    have HE := Lib.hid (ZE.out (by unfold usedOf; simp [hrt]))
    clear hrt
    go_wp2_with fail
    refine bodyPost_ret (res_c (g := gr) (cs := #[.int .i64 0, .int .i64 0, .int .i64 0, .int .i64 0, .slice none 0 0]) rfl _ _ _ _ rfl (((((BR3.out.put 0 _ rfl).put 1 _ rfl).put 2 _ rfl).put 3 _ rfl).put 4 _ rfl) rfl hu36 (by kernel_rfl)) rfl ?_
    rw [HE.out]
    exact ⟨_, rfl, Kd.R_nil _ _ _ _ _, bset (bset (bset (bset (bset HB3.out HG2.out 0 _) HG2.out 1 _) HG2.out 2 _) HG2.out 3 _) HG2.out 4 _⟩
  have hm : l.length ≤ 9223372036854775807 := HC.out.2.1
  rw [hrt]
  have HRT := Lib.hid hrt
  clear hrt
  have HR := Lib.hid (Kd.reads_of_C (d := 0) (Kd.C_below HC.out HB3.out) : ReadsOf (Value.int .u64) 0 w3 A l.length l)
  go_wp2_with fail
  go_loop [3, 17] (fun u i => ∃ k : Nat, k ≤ l.length ∧ i = .int .i64 k ∧ u = .int .u64 (orN (l.take k) : Nat)) (fun _ i => l.length - (intOf i).toNat)
  case atStart => exact ⟨0, Nat.zero_le _, rfl, by simp [orN]⟩
  case round =>
  obtain ⟨k, hk, rfl, rfl⟩ := hrel
  by_cases hlt : k < l.length
  · obtain ⟨ad, hA, hcell⟩ := HR.out.2.2 (by omega)
    have hx := hcell k hlt
    have hu1 := getD_u64 HU.out k
    have hcap : (k : Int) < l.length := by omega
    have ho := or_at l k hlt
    have hol := orN_lt (l.take k) (fun r hr => HU.out r (List.mem_of_mem_take hr))
    generalize l.getD k 0 = x at hx hu1 ho
    obtain ⟨n, rfl⟩ : ∃ n : Nat, x = n := ⟨x.toNat, by unfold u64 at hu1; omega⟩
    rw [Int.toNat_natCast] at ho
    have hb := bits_or_u64_nat (orN (l.take k)) n hol (by unfold u64 at hu1; omega)
    have HO := Lib.hid ho
    subst hA
    clear hcell ho hu1 hol
    generalize orN (l.take k) = a at *
    go_wp2_with fail
    go_round
    case rel => exact ⟨k + 1, by omega, by go_num, by rw [HO.out]⟩
    case measure => simp [intOf]; omega
  obtain rfl : k = l.length := by omega
  rw [List.take_length]
  by_cases huz : orN l = 0
  · have hz : (((orN l : Nat) : Int) == 0) = true := by simp [huz]
    have HE := Lib.hid (ZE.out (by unfold usedOf; rw [HRT.out, huz]; rfl))
    clear huz
    go_wp2_with fail
    refine bodyPost_ret (res_c (g := gr) (cs := #[.int .i64 0, .int .i64 0, .int .i64 0, .int .i64 0, .slice none 0 0]) rfl _ _ _ _ rfl (((((BR3.out.put 0 _ rfl).put 1 _ rfl).put 2 _ rfl).put 3 _ rfl).put 4 _ rfl) rfl hu36 (by kernel_rfl)) rfl ?_
    rw [HE.out]
    exact ⟨_, rfl, Kd.R_nil _ _ _ _ _, bset (bset (bset (bset (bset HB3.out HG2.out 0 _) HG2.out 1 _) HG2.out 2 _) HG2.out 3 _) HG2.out 4 _⟩
  have hz : (((orN l : Nat) : Int) == 0) = false := by simp [huz]
  obtain ⟨f1, f2, f3, f4⟩ := first_spec l HU.out huz
  obtain ⟨l1, l2, l3⟩ := last_spec l huz
  have hN := orN_lt l HU.out
  have HTR := Lib.hid (show trimB ⟨L, T, W, H, l⟩ = ⟨L + Lib.ctz 64 (orN l), T + firstNz l, Lib.bitLen (orN l) - Lib.ctz 64 (orN l), lastNz l - firstNz l + 1, cutRows l⟩ by unfold trimB usedOf; rw [HRT.out, if_pos rfl, if_neg huz])
  have F1 := Lib.hid f1
  have F4 := Lib.hid f4
  have L3 := Lib.hid l3
  have L2 := Lib.hid l2
  clear f1 f3 f4 l2 l3 ZE
  go_wp2_with fail
  refine (ix_nz nz l A c w3 (Kd.C_below HC.out HB3.out) (fun x _ w1 _ => nz_any x w1)).mono ?_
  rintro e w4 ⟨rfl, hb⟩
  rw [F1.out]
  have HB4 := Lib.hid (bthen' HB3.out hb)
  have BB4 := Lib.hid (BB3.out.below hb)
  have BR4 := Lib.hid (BR3.out.below hb)
  have HR4 := Lib.hid (HR.out.below hb)
  clear hb k0 k1 k2 k3 k4 r0 r1 r2 r3 r4 z0 z1 z2 z3 z4
  have k0 := BB4.out.cell 0
  have k1 := BB4.out.cell 1
  have k4 := BB4.out.cell 4
  simp only [List.getElem?_toArray, List.getElem?_cons_zero, List.getElem?_cons_succ] at k0 k1 k4
  obtain ⟨ad, hA, hcell⟩ := HR4.out.2.2 (by omega)
  subst hA
  have HCE := Lib.hid hcell
  have hlen0 : 0 < l.length := by omega
  clear hcell
  obtain ⟨F, hF⟩ : ∃ F, firstNz l = F := ⟨_, rfl⟩
  obtain ⟨Z, hZ⟩ : ∃ Z, lastNz l = Z := ⟨_, rfl⟩
  rw [hF] at f2 ⊢
  rw [hZ] at f2 l1
  have HF := Lib.hid hF
  have HZ := Lib.hid hZ
  clear hF hZ
  go_wp2_with fail
  go_loop [7] (fun v => ∃ m : Nat, Z ≤ m ∧ m < l.length ∧ v = .int .i64 m) (fun v => (intOf v).toNat)
  case atStart => exact ⟨l.length - 1, by omega, by omega, by congr 1; omega⟩
  case round =>
  obtain ⟨m, hm1, hm2, rfl⟩ := hrel
  have hx := HCE.out m hm2
  have hmcap : (m : Int) < l.length := by omega
  have hu1 := getD_u64 HU.out m
  unfold u64 at hu1
  have hzm : Z < m → l.getD m 0 = 0 := fun h => by have := L3.out m (by rw [HZ.out]; exact h); omega
  have hzz : m = Z → l.getD m 0 ≠ 0 := fun h => by have := L2.out; rw [HZ.out] at this; rw [h]; omega
  rcases Nat.lt_or_ge Z m with hlt | hge
  · have e := hzm hlt
    rw [e] at hx
    clear hzm hzz hu1 e
    go_wp2_with fail
    go_round
    case rel => exact ⟨m - 1, by omega, by omega, by congr 1; omega⟩
    case measure => simp [intOf]; omega
  obtain rfl : m = Z := by omega
  have e := hzz rfl
  generalize l.getD m 0 = x at *
  have ex : (x == 0) = false := by simpa using e
  clear hzm hzz e hu1
  go_wp2_with fail
  refine (tz64_any (orN l) hN huz w4 (HT.out.below HB4.out)).mono ?_
  rintro e w' ⟨rfl, rfl⟩
  go_upto_region 15 with fail
  have hok : okB L T W H l = true := by
    have h := HRT.out
    unfold rightB zeroB at h
    rw [decide_eq_false (p := _ ∧ _) (fun h => by have := h.2.2.2.2; omega), Bool.false_or] at h
    exact h
  unfold okB at hok
  rw [Bool.and_eq_true, decide_eq_true_eq] at hok
  obtain ⟨⟨⟨bW1, bW2⟩, ⟨bH1, bH2⟩, bHl, ⟨bL1, bL2⟩, ⟨bT1, bT2⟩⟩, hfit⟩ := hok
  obtain ⟨C, hC⟩ : ∃ C, Lib.ctz 64 (orN l) = C := ⟨_, rfl⟩
  obtain ⟨D, hD⟩ : ∃ D, Lib.bitLen (orN l) = D := ⟨_, rfl⟩
  have hC64 : C < 64 := by rw [← hC]; exact (Lib.lowest_bit 64 (orN l) huz hN).2
  have hD64 : D ≤ 64 := by rw [← hD]; exact bitLen_le _
  have hlen := fun w => Tryd.bits_Len64 ((orN l : Nat) : Int) w (by omega) (by omega)
  rw [Int.toNat_natCast, hD] at hlen
  have HLEN := Lib.hid hlen
  rw [hC, hD] at HTR
  rw [hC]
  have HCC := Lib.hid hC
  have HFIT := Lib.hid hfit
  obtain ⟨N, hNN⟩ : ∃ N, orN l = N := ⟨_, rfl⟩
  rw [hNN] at HLEN hN huz ⊢
  have HNN := Lib.hid hNN
  have hl64 : l.length ≤ 64 := by omega
  clear hlen hC hD hfit hz hNN ex bHl
  go_cut [9] (fun v wx => ∃ gc, v = .pointer (some ⟨gc, 0, none⟩) ∧ Hid (Blk wx gc #[.int .i64 (L + C), .int .i64 (T + F), .int .i64 (D - C), .int .i64 (m - F + 1), .slice none 0 0] 36) ∧ Hid (Below w4.heap.size w4 wx) ∧ Hid (w4.heap.size ≤ gc))
  case first =>
    have e1 : IntKind.i64.wrap (L + (C : Int)) = L + C := IntWalk.i64_in _ (by omega)
    have e2 : IntKind.i64.wrap (T + (F : Int)) = T + F := IntWalk.i64_in _ (by omega)
    have e3 : IntKind.i64.wrap ((D : Int) - (C : Int)) = D - C := IntWalk.i64_in _ (by omega)
    have e4 : IntKind.i64.wrap ((m : Int) - (F : Int)) = m - F := IntWalk.i64_in _ (by omega)
    have e5 : IntKind.i64.wrap ((m : Int) - (F : Int) + 1) = m - F + 1 := IntWalk.i64_in _ (by omega)
    have n0 := World.new_ne w4 _ k0
    have n1 := World.new_ne w4 _ k1
    go_region_held3 (fun w' => w'.cell? ⟨gb, 0, none⟩ = some (.int .i64 L) ∧ w'.cell? ⟨gb, 1, none⟩ = some (.int .i64 T)) (go_keep) (first | (go_at_call 41; refine (HLEN.out _).mono ?_; rintro e w' ⟨rfl, rfl⟩))
    all_goals
      go_wp2_with fail
      go_meet
      case rel => exact ⟨w4.heap.size, rfl, Lib.hid (Blk.new w4 _ _ rfl).drew, Lib.hid (bdrew (balloc (Below.refl _ _) _)), Lib.hid (Nat.le_refl _)⟩
  case rest =>
    obtain ⟨gc, rfl, BC, HBC, HGC⟩ := hcut
    have HBw := Lib.hid (bthen' HB4.out HBC.out)
    have BB5 := Lib.hid (BB4.out.below HBC.out)
    have BR5 := Lib.hid (BR4.out.below HBC.out)
    have HR5 := Lib.hid (HR4.out.below HBC.out)
    clear k0 k1 k4
    have k4 := BB5.out.cell 4
    simp only [List.getElem?_toArray, List.getElem?_cons_zero, List.getElem?_cons_succ] at k4
    have hcc : (l.length : Int) ≤ c := by have := HL.out; omega
    have hF0 : (0 : Int) ≤ F := by omega
    have hFm : (F : Int) ≤ m + 1 := by omega
    have hmc : (m : Int) + 1 ≤ c := by omega
    have hne : c ≠ F := by omega
    go_wp2_with fail
    obtain ⟨n, hn⟩ : ∃ n, m + 1 - F = n := ⟨_, rfl⟩
    rw [hn]
    have hcut : cutRows l = ((l.drop F).take n).map fun r => (r / 2 ^ C : Int) := by unfold cutRows; rw [HF.out, HZ.out, HCC.out, hn]
    have hlc : (cutRows l).length = n := by rw [hcut]; simp; omega
    have hn64 : n ≤ 64 := by omega
    have hFl : F + n ≤ l.length := by omega
    have HCUT := Lib.hid hcut
    have HLC := Lib.hid hlc
    have HBz := Lib.hid HBw.out
    clear hcut hlc hn
    have NGC := Lib.hid (show gr ≠ gc by have := BR4.out.lt; have := HGC.out; omega)
    have HGW := Lib.hid (show w.heap.size ≤ gc by have := HB4.out.size; have := HGC.out; omega)
    go_loopw [69] (fun i wr => ∃ (k : Nat) (v : Value), k ≤ n ∧ i = .int .i64 k ∧ Hid (Blk wr gc #[.int .i64 (L + C), .int .i64 (T + F), .int .i64 (D - C), .int .i64 (m - F + 1), v] 36) ∧ Hid (Blk wr gr #[.int .i64 0, .int .i64 0, .int .i64 0, .int .i64 0, .slice none 0 0] 36) ∧ Hid (Kd.R (Kd.int .u64) 59 wr w.heap.size (fun _ => True) v ((cutRows l).take k)) ∧ Hid (Below w.heap.size w wr)) (fun i _ => n - (intOf i).toNat)
    case atStart => exact ⟨0, _, Nat.zero_le _, rfl, BC, BR5, Lib.hid (Kd.R_nil _ _ _ _ _), HBw⟩
    case round =>
    obtain ⟨k, v, hk, rfl, BK, BRK, HV, HBK⟩ := hrel
    by_cases hlt : k < n
    · have HRK := (Kd.reads_of_C (d := 0) (Kd.C_below HC.out HBK.out) : ReadsOf (Value.int .u64) 0 wr (some ad) l.length l).drop_ F (c := c) (by omega) HL.out
      rw [if_neg hne] at HRK
      obtain ⟨ad2, hA2, hcell⟩ := HRK.2.2 (by omega)
      have hA3 : ad.add F = ad2 := by simpa using hA2
      subst hA3
      have hx := hcell k (by omega)
      rw [List.getD_eq_getElem?_getD, List.getElem?_drop, ← List.getD_eq_getElem?_getD] at hx
      have hu1 := getD_u64 HU.out (F + k)
      have hck : (cutRows l).take (k + 1) = (cutRows l).take k ++ [l.getD (F + k) 0 / 2 ^ C] := by
        rw [List.take_succ_eq_append_getElem (by rw [HLC.out]; exact hlt)]
        congr 2
        simp only [HCUT.out, List.getElem_map, List.getElem_take, List.getElem_drop]
        rw [List.getD_eq_getElem?_getD, List.getElem?_eq_getElem (by omega)]; rfl
      generalize l.getD (F + k) 0 = y at *
      have hkl : ((cutRows l).take k).length ≤ 64 := by rw [List.length_take]; omega
      obtain ⟨rs, hrs⟩ : ∃ rs, (cutRows l).take k = rs := ⟨_, rfl⟩
      rw [hrs] at HV hck hkl
      clear hrs
      have HCK := Lib.hid hck
      have hkn : (k : Int) < n := by omega
      obtain ⟨Av, cv, rfl⟩ := Kd.R_slice HV.out
      clear hcell HRK hA2 hck
      have g4 := BK.out.cell 4
      have q4 := BK.out.frozen 4
      simp only [List.getElem?_toArray, List.getElem?_cons_zero, List.getElem?_cons_succ] at g4
      have g4a : (wr.alloc (.cells #[.int .u64 (y / 2 ^ C)] 59)).cell? ⟨gc, 4, none⟩ = some (.slice Av rs.length cv) := pw_cell_below (below_alloc (Below.refl _ _) _) g4
      have hne4 := Kd.R_ne HV.out BK.out (by decide : 59 ≠ 36)
      have HNE := Lib.hid hne4
      clear hne4
      go_upto_region 19 with fail
      go_region_law ((refine R_append_at (W := (wr.alloc (.cells #[.int .u64 (y / 2 ^ C)] 59)).drew) (Kd.int .u64) (w0 := w) w.heap.size rfl (.tmp 74) (.tmp 78) 34 59 (.int .u64 0) 8 rfl Tryd.underlying34 info59 rfl (by decide) (by omega) (.slice Av rs.length cv) rs (y / 2 ^ C) [.int .u64 (y / 2 ^ C)] (fun _ => False) ⟨wr.heap.size, 0, none⟩ rfl rfl (new_cells wr [.int .u64 (y / 2 ^ C)] _) rfl (fun _ h => h.elim) (Kd.R_drew (Kd.R_alloc HV.out _)) (bdrew (balloc HBK.out _)) (bdrew (balloc HBK.out _)).size (by omega) ?_; intro v1 w1 hR1 hB1 hG1; obtain ⟨A1, c1, rfl⟩ := Kd.R_slice hR1; have bk1 : Blk w1 gc #[.int .i64 (L + C), .int .i64 (T + F), .int .i64 (D - C), .int .i64 (m - F + 1), .slice Av rs.length cv] 36 := (hG1.block gc (BK.out.alloc _).drew.lt HNE.out).trans (BK.out.alloc _).drew; have bg1 : Blk w1 gr #[.int .i64 0, .int .i64 0, .int .i64 0, .int .i64 0, .slice none 0 0] 36 := (hG1.block gr (BRK.out.alloc _).drew.lt (Kd.R_ne HV.out BRK.out (by decide))).trans (BRK.out.alloc _).drew; have j4 := bk1.cell 4; have y4 := bk1.frozen 4; simp only [List.getElem?_toArray, List.getElem?_cons_zero, List.getElem?_cons_succ] at j4; have BK1 := Lib.hid bk1; have BG1 := Lib.hid bg1; have HR1 := Lib.hid hR1; have HB1 := Lib.hid hB1; clear bk1 bg1 hR1 hB1 hG1))
      all_goals
        have h4 : Kd.R (Kd.int .u64) 59 w1 w.heap.size (fun _ => True) (.slice A1 (rs.length + 1) c1) (rs ++ [y / 2 ^ C]) := by
          have h := HR1.out
          rw [List.length_append, List.length_singleton] at h
          exact h
        have H4 := Lib.hid (Kd.R_set h4 BK1.out (by intro q hq; simp [Kd.int, Kd.scalar] at hq; omega) 4 (.slice A1 (rs.length + 1) c1))
        have HK4 := Lib.hid (BK1.out.put 4 (.slice A1 (rs.length + 1) c1) rfl)
        have HG4 := Lib.hid (BG1.out.far NGC.out 4 (.slice A1 (rs.length + 1) c1))
        have HB4' := Lib.hid (bset HB1.out HGW.out 4 (.slice A1 (rs.length + 1) c1))
        clear h4 j4 y4
        generalize World.setCell _ _ _ = w9 at *
        go_wp2_with fail
        go_roundw
        case rel => exact ⟨k + 1, _, by omega, by go_num, HK4, HG4, Lib.hid (by rw [HCK.out]; exact H4.out), HB4'⟩
        case measure => simp [intOf]; omega
    · obtain rfl : k = n := by omega
      obtain ⟨Av, cv, rfl⟩ := Kd.R_slice HV.out
      have HT4 : Hid ((cutRows l).take k = cutRows l) := Lib.hid (List.take_of_length_le (by rw [HLC.out]; exact Nat.le_refl _))
      rw [HT4.out] at BK HV
      have g0 := BK.out.cell 0
      have g1 := BK.out.cell 1
      have g2 := BK.out.cell 2
      have g3 := BK.out.cell 3
      have g4 := BK.out.cell 4
      have r0 := BRK.out.cell 0
      have r1 := BRK.out.cell 1
      have r2 := BRK.out.cell 2
      have r3 := BRK.out.cell 3
      have r4 := BRK.out.cell 4
      simp only [List.getElem?_toArray, List.getElem?_cons_zero, List.getElem?_cons_succ] at g0 g1 g2 g3 g4 r0 r1 r2 r3 r4
      have z0 := BRK.out.frozen 0
      have z1 := BRK.out.frozen 1
      have z2 := BRK.out.frozen 2
      have z3 := BRK.out.frozen 3
      have z4 := BRK.out.frozen 4
      obtain ⟨nl, hnl⟩ : ∃ nl, (cutRows l).length = nl := ⟨_, rfl⟩
      rw [hnl] at g4 BK HV
      have HNL := Lib.hid hnl
      clear hnl
      go_wp2_with fail
      refine bodyPost_ret (res_c (g := gr) (cs := #[.int .i64 (L + C), .int .i64 (T + F), .int .i64 (D - C), .int .i64 (m - F + 1), .slice Av nl cv]) rfl _ _ _ _ rfl (((((BRK.out.put 0 _ rfl).put 1 _ rfl).put 2 _ rfl).put 3 _ rfl).put 4 _ rfl) rfl hu36 (by kernel_rfl)) rfl ?_
      rw [HTR.out]
      dsimp only
      rw [HF.out, HZ.out]
      refine ⟨.slice Av nl cv, rfl, ?_, bset (bset (bset (bset (bset HBK.out HG2.out 0 _) HG2.out 1 _) HG2.out 2 _) HG2.out 3 _) HG2.out 4 _⟩
      have hq : ∀ q, q ∈ 59 :: (Kd.int .u64).E → q ≠ 36 := by intro q hq; simp [Kd.int, Kd.scalar] at hq; omega
      exact Kd.R_set (Kd.R_set (Kd.R_set (Kd.R_set (Kd.R_set HV.out BRK.out hq 0 _) (BRK.out.set 0 _) hq 1 _) ((BRK.out.set 0 _).set 1 _) hq 2 _) (((BRK.out.set 0 _).set 1 _).set 2 _) hq 3 _) ((((BRK.out.set 0 _).set 1 _).set 2 _).set 3 _) hq 4 _
end Go.Proofs.YtleljodcdbhifaaDoor
/- slices.Clone in the print's form. -/
set_option linter.unusedVariables false
namespace Go.Proofs.YtleljodcdbhifaaDoor
open Go.RowKit Go.Proofs.YtleljodcdbhifaaDoorW.PrintWords Go.Proofs.YtleljodcdbhifaaDoorW.PrintLast Go.Proofs.YtleljodcdbhifaaDoorW.PrintMore Hy
def Hy.scan_Clone.f (l : List Int) : Option (List Int) := if l.length * 8 ≤ 140737488355328 then some l else none
theorem Hy.scan_Clone.calls (A : Option Addr) (c : Nat) (l : List Int) (r : List Int) (w : World) (hr : Kd.C (Kd.int .u64) w A l.length l) (hc : l.length ≤ c) (h : scan_Clone.f l = some r) :
    Calls Tryd.prog 46 #[.slice A l.length c] w fun e w' => ∃ v, e = .returned v ∧ Kd.R (Kd.int .u64) 59 w' w.heap.size (fun _ => True) v r ∧ Below w.heap.size w w' := by
  unfold scan_Clone.f at h
  split at h
  · rename_i hn
    obtain rfl := Option.some.inj h
    exact clone_any A c l w hr hn
  · cases h
end Go.Proofs.YtleljodcdbhifaaDoor
/- The pixels of two bitmaps. -/
set_option linter.unusedVariables false
set_option linter.unusedSimpArgs false
namespace Go.Proofs.YtleljodcdbhifaaDoor
open Go.RowKit Go.Proofs.YtleljodcdbhifaaDoorW.PrintWords Go.Proofs.YtleljodcdbhifaaDoorW.PrintLast Go.Proofs.YtleljodcdbhifaaDoorW.PrintMore Hy
attribute [local go_sem ↓] Go.wp_at_zero Go.wp_at_succ
def Bm.right (b : Bm) : Bool := rightB b.L b.T b.W b.H b.rows
/-- a row with the pixels of another, shifted -/
def orAt (x r : Int) (s : Nat) : Int := ((x.toNat ||| (r.toNat * 2 ^ s) : Nat) : Int)
/-- rows with those of a bitmap, its first k -/
def orInto (off s : Nat) (ms : List Int) : Nat → List Int → List Int
  | 0, rows => rows
  | k + 1, rows => (orInto off s ms k rows).set (off + k) (orAt ((orInto off s ms k rows).getD (off + k) 0) (ms.getD k 0) s)
def orL (a b : Bm) : Int := min a.L b.L
def orT (a b : Bm) : Int := min a.T b.T
def orW (a b : Bm) : Int := max (a.L + a.W) (b.L + b.W) - orL a b
def orH (a b : Bm) : Int := max (a.T + a.H) (b.T + b.H) - orT a b
def orPut (a b m : Bm) (rows : List Int) : List Int := orInto (m.T - orT a b).toNat (m.L - orL a b).toNat m.rows m.rows.length rows
def orRows (a b : Bm) : List Int := orPut a b b (orPut a b a (List.replicate (orH a b).toNat 0))
def orB (a b : Bm) : Bm × Int :=
  if a.right = false ∨ b.right = false then (Bm.zero, 1)
  else if a.W = 0 then (b, 0)
  else if b.W = 0 then (a, 0)
  else if 64 < orW a b ∨ 64 < orH a b then (Bm.zero, 3)
  else (⟨orL a b, orT a b, orW a b, orH a b, orRows a b⟩, 0)
def orStage (a b : Bm) : Nat → List Int
  | 0 => List.replicate (orH a b).toNat 0
  | j + 1 => orPut a b (if j = 0 then a else b) (orStage a b j)
theorem orRows_stage (a b : Bm) : orRows a b = orStage a b 2 := rfl
theorem orInto_length (off s : Nat) (ms : List Int) (rows : List Int) : ∀ k, (orInto off s ms k rows).length = rows.length
  | 0 => rfl
  | k + 1 => by rw [orInto, List.length_set, orInto_length]
theorem orStage_length (a b : Bm) : ∀ j, (orStage a b j).length = (orH a b).toNat
  | 0 => by simp [orStage]
  | j + 1 => by rw [orStage, orPut, orInto_length, orStage_length]
theorem two_cells {w : World} {gs : Nat} (a b : Bm) (Aa Ab : Option Addr) (ca cb : Nat) (B : Blk w gs #[.int .i64 a.L, .int .i64 a.T, .int .i64 a.W, .int .i64 a.H, .slice Aa a.rows.length ca, .int .i64 b.L, .int .i64 b.T, .int .i64 b.W, .int .i64 b.H, .slice Ab b.rows.length cb] 36) (j : Nat) (hj : j < 2) :
    ∃ (m : Bm) (A : Option Addr) (c : Nat), m = (if j = 0 then a else b) ∧ A = (if j = 0 then Aa else Ab) ∧ c = (if j = 0 then ca else cb) ∧
      w.cell? ((⟨gs, 0, none⟩ : Addr).add (j * 5)) = some (.int .i64 m.L) ∧
      w.cell? ⟨((⟨gs, 0, none⟩ : Addr).add (j * 5)).block, ((⟨gs, 0, none⟩ : Addr).add (j * 5)).off + 1, none⟩ = some (.int .i64 m.T) ∧
      w.cell? ⟨((⟨gs, 0, none⟩ : Addr).add (j * 5)).block, ((⟨gs, 0, none⟩ : Addr).add (j * 5)).off + 2, none⟩ = some (.int .i64 m.W) ∧
      w.cell? ⟨((⟨gs, 0, none⟩ : Addr).add (j * 5)).block, ((⟨gs, 0, none⟩ : Addr).add (j * 5)).off + 3, none⟩ = some (.int .i64 m.H) ∧
      w.cell? ⟨((⟨gs, 0, none⟩ : Addr).add (j * 5)).block, ((⟨gs, 0, none⟩ : Addr).add (j * 5)).off + 4, none⟩ = some (.slice A m.rows.length c) := by
  have h : j = 0 ∨ j = 1 := by omega
  rcases h with rfl | rfl
  · exact ⟨a, Aa, ca, rfl, rfl, rfl, B.cell 0, B.cell 1, B.cell 2, B.cell 3, B.cell 4⟩
  · exact ⟨b, Ab, cb, rfl, rfl, rfl, B.cell 5, B.cell 6, B.cell 7, B.cell 8, B.cell 9⟩
def Words (l : List Int) : Prop := ∀ r ∈ l, u64 r
theorem orAt_u64 {x r : Int} {s : Nat} (hx : u64 x) (h : r.toNat * 2 ^ s < 18446744073709551616) : u64 (orAt x r s) := by
  unfold u64 at hx
  have := Nat.or_lt_two_pow (n := 64) (x := x.toNat) (y := r.toNat * 2 ^ s) (by omega) (by omega)
  unfold orAt u64
  omega
theorem orAt_bits {x r : Int} {s : Nat} (hx : u64 x) (hr : u64 r) (h : r.toNat * 2 ^ s < 18446744073709551616) : bits BinOp.or IntKind.u64 x (IntKind.u64.wrap (r * 2 ^ s)) = orAt x r s := by
  unfold u64 at hx hr
  obtain ⟨a, rfl⟩ : ∃ a : Nat, x = a := ⟨x.toNat, by omega⟩
  obtain ⟨b, rfl⟩ : ∃ b : Nat, r = b := ⟨r.toNat, by omega⟩
  rw [Int.toNat_natCast] at h
  have e : IntKind.u64.wrap ((b : Int) * 2 ^ s) = ((b * 2 ^ s : Nat) : Int) := by
    rw [show (b : Int) * 2 ^ s = ((b * 2 ^ s : Nat) : Int) by simp]
    exact IntWalk.u64_in _ (by omega)
  rw [e]
  unfold orAt
  rw [Int.toNat_natCast, Int.toNat_natCast]
  exact bits_or_u64_nat a (b * 2 ^ s) (by omega) (by omega)
theorem Words.getD {l : List Int} (h : Words l) (k : Nat) : u64 (l.getD k 0) := getD_u64 h k
theorem Words.set {l : List Int} (h : Words l) {k : Nat} {x : Int} (hx : u64 x) : Words (l.set k x) := by
  intro r hr
  rcases List.mem_or_eq_of_mem_set hr with h1 | h1
  · exact h r h1
  · subst h1; exact hx
theorem Words.one {x : Int} (h : u64 x) : Words [x] := fun r hr => by rw [List.mem_singleton] at hr; subst hr; exact h
theorem Words.head {x : Int} {l : List Int} (h : Words (x :: l)) : u64 x := h x List.mem_cons_self
theorem Words.zeros (n : Nat) : Words (List.replicate n 0) := by
  intro r hr
  rw [List.eq_of_mem_replicate hr]
  unfold u64
  omega
theorem shl_fits {r : Int} {W s : Nat} (h : r.toNat < 2 ^ W) (hw : s + W ≤ 64) : r.toNat * 2 ^ s < 18446744073709551616 := by
  have h1 : r.toNat * 2 ^ s < 2 ^ W * 2 ^ s := Nat.mul_lt_mul_of_pos_right h (Nat.two_pow_pos s)
  rw [← Nat.pow_add] at h1
  have h2 : 2 ^ (W + s) ≤ 2 ^ 64 := Nat.pow_le_pow_right (by decide) (by omega)
  omega
theorem right_w0 {b : Bm} (h : b.right = true) (hw : b.W = 0) : b = Bm.zero := by
  obtain ⟨L, T, W, H, rs⟩ := b
  unfold Bm.right rightB zeroB okB at h
  dsimp only at h hw
  subst hw
  rw [Bool.or_eq_true] at h
  rcases h with h | h
  · obtain ⟨h1, h2, _, h4, h5⟩ := of_decide_eq_true h
    obtain rfl := List.length_eq_zero_iff.1 h5
    subst h1 h2 h4
    rfl
  · rw [Bool.and_eq_true] at h
    have := of_decide_eq_true h.1
    omega
theorem right_ok {b : Bm} (h : b.right = true) (hw : b.W ≠ 0) : okB b.L b.T b.W b.H b.rows = true := by
  unfold Bm.right rightB zeroB at h
  rw [decide_eq_false (p := _ ∧ _) (fun h => hw h.2.2.1), Bool.false_or] at h
  exact h
theorem ok_facts {L T W H : Int} {l : List Int} (h : okB L T W H l = true) : (1 ≤ W ∧ W ≤ 64) ∧ (1 ≤ H ∧ H ≤ 64) ∧ (l.length : Int) = H ∧ (-10000 ≤ L ∧ L ≤ 10001 - W) ∧ (-10000 ≤ T ∧ T ≤ 10001 - H) := by
  unfold okB at h
  rw [Bool.and_eq_true] at h
  exact of_decide_eq_true h.1
theorem bitLen_pos {y : Nat} (h0 : y ≠ 0) (h : y < 18446744073709551616) : 0 < Lib.bitLen y := by
  rw [Lib.bitLen_half y h0 (by omega)]
  omega
theorem lt_bitLen {x k : Nat} (h : x < 18446744073709551616) (hk : 2 ^ k ≤ x) : k < Lib.bitLen x := by
  rw [Lib.bitLen_shift k x hk (by omega)]
  have h1 : 0 < x / 2 ^ k := Nat.div_pos hk (Nat.two_pow_pos k)
  have h2 : x / 2 ^ k ≤ x := Nat.div_le_self _ _
  have := bitLen_pos (y := x / 2 ^ k) (by omega) (by omega)
  omega
theorem lt_two_bitLen (n : Nat) (h : n < 18446744073709551616) : n < 2 ^ Lib.bitLen n := by
  rcases Nat.lt_or_ge n (2 ^ Lib.bitLen n) with h1 | h1
  · exact h1
  · have := lt_bitLen h h1
    omega
theorem bitLen_le_of : ∀ (k x : Nat), x < 18446744073709551616 → x < 2 ^ k → Lib.bitLen x ≤ k
  | 0, x, _, hx => by
    obtain rfl : x = 0 := by simpa using hx
    simp [Lib.bitLen, Lib.bitLenAux]
  | k + 1, x, h, hx => by
    by_cases h0 : x = 0
    · subst h0
      simp [Lib.bitLen, Lib.bitLenAux]
    · rw [Lib.bitLen_half x h0 (by omega)]
      have := bitLen_le_of k (x / 2) (by omega) (by rw [Nat.pow_succ] at hx; omega)
      omega
theorem bitLen_le_iff {x k : Nat} (h : x < 18446744073709551616) : Lib.bitLen x ≤ k ↔ x < 2 ^ k :=
  ⟨fun h1 => Nat.lt_of_lt_of_le (lt_two_bitLen x h) (Nat.pow_le_pow_right (by decide) h1), bitLen_le_of k x h⟩
theorem ok_row {L T W H : Int} {l : List Int} (h : okB L T W H l = true) (hu : ∀ r ∈ l, u64 r) : ∀ r ∈ l, r.toNat < 2 ^ W.toNat := by
  have h0 := ok_facts h
  unfold okB at h
  rw [Bool.and_eq_true, Bool.not_eq_true', List.any_eq_false] at h
  intro r hr
  have h1 := h.2 r hr
  have h2 := hu r hr
  unfold fitB at h1
  unfold u64 at h2
  have h3 := lt_two_bitLen r.toNat (by omega)
  have h4 : 2 ^ Lib.bitLen r.toNat ≤ 2 ^ W.toNat := Nat.pow_le_pow_right (by decide) (by simp at h1; omega)
  omega
set_option maxRecDepth 100000 in
set_option maxHeartbeats 40000000 in
theorem or_any (a b : Bm) (Aa Ab : Option Addr) (ca cb : Nat) (w : World) (hra : Kd.C (Kd.int .u64) w Aa a.rows.length a.rows) (hca : a.rows.length ≤ ca) (hua : ∀ r ∈ a.rows, u64 r) (hrb : Kd.C (Kd.int .u64) w Ab b.rows.length b.rows) (hcb : b.rows.length ≤ cb) (hub : ∀ r ∈ b.rows, u64 r) :
    Calls Tryd.prog 27 #[.agg #[.int .i64 a.L, .int .i64 a.T, .int .i64 a.W, .int .i64 a.H, .slice Aa a.rows.length ca], .agg #[.int .i64 b.L, .int .i64 b.T, .int .i64 b.W, .int .i64 b.H, .slice Ab b.rows.length cb]] w fun e w' => ∃ v, e = .returned (.tuple #[.agg #[.int .i64 (orB a b).1.L, .int .i64 (orB a b).1.T, .int .i64 (orB a b).1.W, .int .i64 (orB a b).1.H, v], .int .i64 (orB a b).2]) ∧ Kd.R (Kd.int .u64) 59 w' w.heap.size (fun _ => True) v (orB a b).1.rows ∧ Below w.heap.size w w' := by
  have hu36 := Tryd.underlying36
  have HRA := Lib.hid hra
  have HCA := Lib.hid hca
  have HUA := Lib.hid hua
  have HRB := Lib.hid hrb
  have HCB := Lib.hid hcb
  have HUB := Lib.hid hub
  clear hra hca hua hrb hcb hub
  obtain ⟨aL, aT, aW, aH, ar⟩ := a
  obtain ⟨bL, bT, bW, bH, br⟩ := b
  dsimp only at HRA HCA HUA HRB HCB HUB ⊢
  obtain ⟨ob, hob⟩ : ∃ o, orB ⟨aL, aT, aW, aH, ar⟩ ⟨bL, bT, bW, bH, br⟩ = o := ⟨_, rfl⟩
  have HOB := Lib.hid hob
  rw [hob]
  clear hob
  go_enter Tryd.func27, Tryd.ntmps27
  go_upto_region 1 with fail
  obtain ⟨w1, ga, hw, hg, B1, HB1, HN1⟩ := new_box w #[.int .i64 aL, .int .i64 aT, .int .i64 aW, .int .i64 aH, .slice Aa ar.length ca] 36
  obtain ⟨w2, gb, hw2, hg2, B2, HB2, HN2⟩ := new_box w1 #[.int .i64 bL, .int .i64 bT, .int .i64 bW, .int .i64 bH, .slice Ab br.length cb] 36
  obtain ⟨w3, gr, hw3, hg3, B3, HB3, HN3⟩ := new_box w2 #[.int .i64 0, .int .i64 0, .int .i64 0, .int .i64 0, .slice none 0 0] 36
  have eg : ga + 1 = gb := by rw [← hg2, ← hw, World.size_alloc, hg]
  have eg2 : gb + 1 = gr := by rw [← hg3, ← hw2, World.size_alloc, hg2]
  have eg3 : ga + 1 + 1 = gr := by omega
  rw [hw, hw2, hw3, hg, eg, eg2]
  have HB := Lib.hid (bthen' HB1.out (bthen' HB2.out HB3.out))
  have BA := Lib.hid ((B1.out.below HB2.out).below HB3.out)
  have BB := Lib.hid (B2.out.below HB3.out)
  have HG := Lib.hid (show w.heap.size ≤ ga by omega)
  have m1 : ga ≠ gb := by omega
  have m2 : ga ≠ gr := by omega
  have m3 : gb ≠ gr := by omega
  have HG1 := Lib.hid (show w.heap.size ≤ gb by omega)
  have HG2 := Lib.hid (show w.heap.size ≤ gr by omega)
  clear hw hw2 hw3 hg hg2 hg3 eg eg2 eg3 HN1 HN2 HN3 B1 B2 HB1 HB2 HB3
  have k0 := BA.out.cell 0
  have k1 := BA.out.cell 1
  have k2 := BA.out.cell 2
  have k3 := BA.out.cell 3
  have k4 := BA.out.cell 4
  simp only [List.getElem?_toArray, List.getElem?_cons_zero, List.getElem?_cons_succ] at k0 k1 k2 k3 k4
  go_wp2_with fail
  refine (scan_Right.calls aL aT aW aH Aa ca ar (rightB aL aT aW aH ar) w3 (Kd.C_below HRA.out HB.out) HCA.out (by unfold scan_Right.f; rw [if_pos HUA.out])).mono ?_
  rintro e w4 ⟨rfl, hb⟩
  have HB4 := Lib.hid (bthen' HB.out hb)
  have BA4 := Lib.hid (BA.out.below hb)
  have BB4 := Lib.hid (BB.out.below hb)
  have BR4 := Lib.hid (B3.out.below hb)
  clear hb k0 k1 k2 k3 k4 BA BB B3 HB
  have hra : rightB aL aT aW aH ar = true ∨ rightB aL aT aW aH ar = false := by cases rightB aL aT aW aH ar <;> simp
  rcases hra with hra | hra
  case inr =>
    have HE : Hid (ob = (Bm.zero, 1)) := Lib.hid (by rw [← HOB.out]; unfold orB; rw [if_pos (.inl hra)])
    rw [hra]
    have r0 := BR4.out.cell 0
    have r1 := BR4.out.cell 1
    have r2 := BR4.out.cell 2
    have r3 := BR4.out.cell 3
    have r4 := BR4.out.cell 4
    simp only [List.getElem?_toArray, List.getElem?_cons_zero, List.getElem?_cons_succ] at r0 r1 r2 r3 r4
    have z0 := BR4.out.frozen 0
    have z1 := BR4.out.frozen 1
    have z2 := BR4.out.frozen 2
    have z3 := BR4.out.frozen 3
    have z4 := BR4.out.frozen 4
    clear hra
    go_wp2_with fail
    refine bodyPost_ret (res_ct (g := gr) (cs := #[.int .i64 0, .int .i64 0, .int .i64 0, .int .i64 0, .slice none 0 0]) rfl _ _ _ _ rfl (((((BR4.out.put 0 _ rfl).put 1 _ rfl).put 2 _ rfl).put 3 _ rfl).put 4 _ rfl) rfl hu36 (by kernel_rfl)) rfl ?_
    rw [HE.out]
    exact ⟨_, rfl, Kd.R_nil _ _ _ _ _, bset (bset (bset (bset (bset HB4.out HG2.out 0 _) HG2.out 1 _) HG2.out 2 _) HG2.out 3 _) HG2.out 4 _⟩
  rw [hra]
  have HRTA := Lib.hid hra
  clear hra
  have k0 := BB4.out.cell 0
  have k1 := BB4.out.cell 1
  have k2 := BB4.out.cell 2
  have k3 := BB4.out.cell 3
  have k4 := BB4.out.cell 4
  simp only [List.getElem?_toArray, List.getElem?_cons_zero, List.getElem?_cons_succ] at k0 k1 k2 k3 k4
  go_wp2_with fail
  refine (scan_Right.calls bL bT bW bH Ab cb br (rightB bL bT bW bH br) w4 (Kd.C_below HRB.out HB4.out) HCB.out (by unfold scan_Right.f; rw [if_pos HUB.out])).mono ?_
  rintro e w5 ⟨rfl, hb⟩
  have HB5 := Lib.hid (bthen' HB4.out hb)
  have BA5 := Lib.hid (BA4.out.below hb)
  have BB5 := Lib.hid (BB4.out.below hb)
  have BR5 := Lib.hid (BR4.out.below hb)
  clear hb k0 k1 k2 k3 k4 BA4 BB4 BR4 HB4
  have r0 := BR5.out.cell 0
  have r1 := BR5.out.cell 1
  have r2 := BR5.out.cell 2
  have r3 := BR5.out.cell 3
  have r4 := BR5.out.cell 4
  simp only [List.getElem?_toArray, List.getElem?_cons_zero, List.getElem?_cons_succ] at r0 r1 r2 r3 r4
  have z0 := BR5.out.frozen 0
  have z1 := BR5.out.frozen 1
  have z2 := BR5.out.frozen 2
  have z3 := BR5.out.frozen 3
  have z4 := BR5.out.frozen 4
  have hrb : rightB bL bT bW bH br = true ∨ rightB bL bT bW bH br = false := by cases rightB bL bT bW bH br <;> simp
  rcases hrb with hrb | hrb
  case inr =>
    have HE : Hid (ob = (Bm.zero, 1)) := Lib.hid (by rw [← HOB.out]; unfold orB; rw [if_pos (.inr hrb)])
    rw [hrb]
    clear hrb
    go_wp2_with fail
    refine bodyPost_ret (res_ct (g := gr) (cs := #[.int .i64 0, .int .i64 0, .int .i64 0, .int .i64 0, .slice none 0 0]) rfl _ _ _ _ rfl (((((BR5.out.put 0 _ rfl).put 1 _ rfl).put 2 _ rfl).put 3 _ rfl).put 4 _ rfl) rfl hu36 (by kernel_rfl)) rfl ?_
    rw [HE.out]
    exact ⟨_, rfl, Kd.R_nil _ _ _ _ _, bset (bset (bset (bset (bset HB5.out HG2.out 0 _) HG2.out 1 _) HG2.out 2 _) HG2.out 3 _) HG2.out 4 _⟩
  rw [hrb]
  have HRTB := Lib.hid hrb
  clear hrb
  have k2 := BA5.out.cell 2
  simp only [List.getElem?_toArray, List.getElem?_cons_zero, List.getElem?_cons_succ] at k2
  by_cases haw : aW = 0
  · subst haw
    have HE : Hid (ob = (⟨bL, bT, bW, bH, br⟩, 0)) := Lib.hid (by rw [← HOB.out]; unfold orB; rw [if_neg (by unfold Bm.right; simp [HRTA.out, HRTB.out]), if_pos rfl])
    have j0 := BB5.out.cell 0
    have j1 := BB5.out.cell 1
    have j2 := BB5.out.cell 2
    have j3 := BB5.out.cell 3
    have j4 := BB5.out.cell 4
    simp only [List.getElem?_toArray, List.getElem?_cons_zero, List.getElem?_cons_succ] at j0 j1 j2 j3 j4
    have hbl : br.length * 8 ≤ 140737488355328 := by
      by_cases hbw : bW = 0
      · have := right_w0 (b := ⟨bL, bT, bW, bH, br⟩) HRTB.out hbw
        rw [Bm.mk.injEq] at this
        rw [this.2.2.2.2]; decide
      · have := ok_facts (right_ok (b := ⟨bL, bT, bW, bH, br⟩) HRTB.out hbw)
        dsimp only at this
        omega
    go_wp2_with fail
    refine (clone_any Ab cb br w5 (Kd.C_below HRB.out HB5.out) hbl).mono ?_
    rintro e w6 ⟨v6, rfl, hR6, hb⟩
    obtain ⟨A6, c6, rfl⟩ := Kd.R_slice hR6
    have HR6 := Lib.hid (Kd.R_lower hR6 HB5.out.size)
    have HB6 := Lib.hid (bthen' HB5.out hb)
    have BB6 := Lib.hid (BB5.out.below hb)
    have BR6 := Lib.hid (BR5.out.below hb)
    clear hR6 hb j0 j1 j2 j3 j4 r0 r1 r2 r3 r4 z0 z1 z2 z3 z4 hbl
    have j0 := BB6.out.cell 0
    have j1 := BB6.out.cell 1
    have j2 := BB6.out.cell 2
    have j3 := BB6.out.cell 3
    have j4 := BB6.out.cell 4
    have y4 := BB6.out.frozen 4
    have r0 := BR6.out.cell 0
    have r1 := BR6.out.cell 1
    have r2 := BR6.out.cell 2
    have r3 := BR6.out.cell 3
    have r4 := BR6.out.cell 4
    simp only [List.getElem?_toArray, List.getElem?_cons_zero, List.getElem?_cons_succ] at j0 j1 j2 j3 j4 r0 r1 r2 r3 r4
    have z0 := BR6.out.frozen 0
    have z1 := BR6.out.frozen 1
    have z2 := BR6.out.frozen 2
    have z3 := BR6.out.frozen 3
    have z4 := BR6.out.frozen 4
    go_wp2_with fail
    have BX := BR6.out.far (Ne.symm m3) 4 (.slice A6 br.length c6)
    refine bodyPost_ret (res_ct (g := gr) (cs := #[.int .i64 bL, .int .i64 bT, .int .i64 bW, .int .i64 bH, .slice A6 br.length c6]) rfl _ _ _ _ rfl (((((BX.put 0 _ rfl).put 1 _ rfl).put 2 _ rfl).put 3 _ rfl).put 4 _ rfl) rfl hu36 (by kernel_rfl)) rfl ?_
    rw [HE.out]
    refine ⟨.slice A6 br.length c6, rfl, ?_, bset (bset (bset (bset (bset (bset HB6.out HG1.out 4 _) HG2.out 0 _) HG2.out 1 _) HG2.out 2 _) HG2.out 3 _) HG2.out 4 _⟩
    have hq : ∀ q, q ∈ 59 :: (Kd.int .u64).E → q ≠ 36 := by intro q hq; simp [Kd.int, Kd.scalar] at hq; omega
    have H6 := Kd.R_set HR6.out BB6.out hq 4 (.slice A6 br.length c6)
    exact Kd.R_set (Kd.R_set (Kd.R_set (Kd.R_set (Kd.R_set H6 BX hq 0 _) (BX.set 0 _) hq 1 _) ((BX.set 0 _).set 1 _) hq 2 _) (((BX.set 0 _).set 1 _).set 2 _) hq 3 _) ((((BX.set 0 _).set 1 _).set 2 _).set 3 _) hq 4 _
  have kb2 := BB5.out.cell 2
  simp only [List.getElem?_toArray, List.getElem?_cons_zero, List.getElem?_cons_succ] at kb2
  by_cases hbw : bW = 0
  · subst hbw
    have HE : Hid (ob = (⟨aL, aT, aW, aH, ar⟩, 0)) := Lib.hid (by rw [← HOB.out]; unfold orB; rw [if_neg (by unfold Bm.right; simp [HRTA.out, HRTB.out]), if_neg haw, if_pos rfl])
    have j0 := BA5.out.cell 0
    have j1 := BA5.out.cell 1
    have j2 := BA5.out.cell 2
    have j3 := BA5.out.cell 3
    have j4 := BA5.out.cell 4
    simp only [List.getElem?_toArray, List.getElem?_cons_zero, List.getElem?_cons_succ] at j0 j1 j2 j3 j4
    have hbl : ar.length * 8 ≤ 140737488355328 := by
      have := ok_facts (right_ok (b := ⟨aL, aT, aW, aH, ar⟩) HRTA.out haw)
      dsimp only at this
      omega
    have haz : (aW == 0) = false := by simpa using haw
    go_wp2_with fail
    refine (clone_any Aa ca ar w5 (Kd.C_below HRA.out HB5.out) hbl).mono ?_
    rintro e w6 ⟨v6, rfl, hR6, hb⟩
    obtain ⟨A6, c6, rfl⟩ := Kd.R_slice hR6
    have HR6 := Lib.hid (Kd.R_lower hR6 HB5.out.size)
    have HB6 := Lib.hid (bthen' HB5.out hb)
    have BA6 := Lib.hid (BA5.out.below hb)
    have BR6 := Lib.hid (BR5.out.below hb)
    clear hR6 hb j0 j1 j2 j3 j4 r0 r1 r2 r3 r4 z0 z1 z2 z3 z4 hbl
    have j0 := BA6.out.cell 0
    have j1 := BA6.out.cell 1
    have j2 := BA6.out.cell 2
    have j3 := BA6.out.cell 3
    have j4 := BA6.out.cell 4
    have y4 := BA6.out.frozen 4
    have r0 := BR6.out.cell 0
    have r1 := BR6.out.cell 1
    have r2 := BR6.out.cell 2
    have r3 := BR6.out.cell 3
    have r4 := BR6.out.cell 4
    simp only [List.getElem?_toArray, List.getElem?_cons_zero, List.getElem?_cons_succ] at j0 j1 j2 j3 j4 r0 r1 r2 r3 r4
    have z0 := BR6.out.frozen 0
    have z1 := BR6.out.frozen 1
    have z2 := BR6.out.frozen 2
    have z3 := BR6.out.frozen 3
    have z4 := BR6.out.frozen 4
    go_wp2_with fail
    have BX := BR6.out.far (Ne.symm m2) 4 (.slice A6 ar.length c6)
    refine bodyPost_ret (res_ct (g := gr) (cs := #[.int .i64 aL, .int .i64 aT, .int .i64 aW, .int .i64 aH, .slice A6 ar.length c6]) rfl _ _ _ _ rfl (((((BX.put 0 _ rfl).put 1 _ rfl).put 2 _ rfl).put 3 _ rfl).put 4 _ rfl) rfl hu36 (by kernel_rfl)) rfl ?_
    rw [HE.out]
    refine ⟨.slice A6 ar.length c6, rfl, ?_, bset (bset (bset (bset (bset (bset HB6.out HG.out 4 _) HG2.out 0 _) HG2.out 1 _) HG2.out 2 _) HG2.out 3 _) HG2.out 4 _⟩
    have hq : ∀ q, q ∈ 59 :: (Kd.int .u64).E → q ≠ 36 := by intro q hq; simp [Kd.int, Kd.scalar] at hq; omega
    have H6 := Kd.R_set HR6.out BA6.out hq 4 (.slice A6 ar.length c6)
    exact Kd.R_set (Kd.R_set (Kd.R_set (Kd.R_set (Kd.R_set H6 BX hq 0 _) (BX.set 0 _) hq 1 _) ((BX.set 0 _).set 1 _) hq 2 _) (((BX.set 0 _).set 1 _).set 2 _) hq 3 _) ((((BX.set 0 _).set 1 _).set 2 _).set 3 _) hq 4 _
  have haz : (aW == 0) = false := by simpa using haw
  have hbz : (bW == 0) = false := by simpa using hbw
  obtain ⟨⟨aW1, aW2⟩, ⟨aH1, aH2⟩, aHl, ⟨aL1, aL2⟩, ⟨aT1, aT2⟩⟩ := ok_facts (right_ok (b := ⟨aL, aT, aW, aH, ar⟩) HRTA.out haw)
  obtain ⟨⟨bW1, bW2⟩, ⟨bH1, bH2⟩, bHl, ⟨bL1, bL2⟩, ⟨bT1, bT2⟩⟩ := ok_facts (right_ok (b := ⟨bL, bT, bW, bH, br⟩) HRTB.out hbw)
  dsimp only at aW1 aW2 aH1 aH2 aHl aL1 aL2 aT1 aT2 bW1 bW2 bH1 bH2 bHl bL1 bL2 bT1 bT2
  have AHL := Lib.hid aHl
  have BHL := Lib.hid bHl
  have j0 := BA5.out.cell 0
  have j1 := BA5.out.cell 1
  have j3 := BA5.out.cell 3
  have b0 := BB5.out.cell 0
  have b1 := BB5.out.cell 1
  have b3 := BB5.out.cell 3
  simp only [List.getElem?_toArray, List.getElem?_cons_zero, List.getElem?_cons_succ] at j0 j1 j3 b0 b1 b3
  clear aHl bHl haw hbw
  go_upto_region 10 with fail
  obtain ⟨w6, gc, hw, hg, B6, HB6, HN6⟩ := new_box w5 #[.int .i64 (min aL bL), .int .i64 (min aT bT), .int .i64 0, .int .i64 0, .slice none 0 0] 36
  rw [hw, hg]
  have HGC := Lib.hid (Nat.le_of_eq hg)
  have HGC' : w.heap.size ≤ gc := by have := HB5.out.size; have := HGC.out; omega
  have BA6 := Lib.hid (BA5.out.below HB6.out)
  have BB6 := Lib.hid (BB5.out.below HB6.out)
  have BR6 := Lib.hid (BR5.out.below HB6.out)
  have HB7 := Lib.hid (bthen' HB5.out HB6.out)
  have n1 : ga ≠ gc := by have := BA5.out.lt; omega
  have n2 : gb ≠ gc := by have := BB5.out.lt; omega
  have n3 : gr ≠ gc := by have := BR5.out.lt; omega
  clear hw hg HN6 k2 kb2 j0 j1 j3 b0 b1 b3 r0 r1 r2 r3 r4 z0 z1 z2 z3 z4
  have j0 := BA6.out.cell 0
  have j1 := BA6.out.cell 1
  have j2 := BA6.out.cell 2
  have j3 := BA6.out.cell 3
  have b0 := BB6.out.cell 0
  have b1 := BB6.out.cell 1
  have b2 := BB6.out.cell 2
  have b3 := BB6.out.cell 3
  have c0 := B6.out.cell 0
  have c1 := B6.out.cell 1
  have c2 := B6.out.cell 2
  have c3 := B6.out.cell 3
  simp only [List.getElem?_toArray, List.getElem?_cons_zero, List.getElem?_cons_succ] at j0 j1 j2 j3 b0 b1 b2 b3 c0 c1 c2 c3
  have f2 := B6.out.frozen 2
  have f3 := B6.out.frozen 3
  go_cut [77] (fun _ wx => Hid (Blk wx gc #[.int .i64 (min aL bL), .int .i64 (min aT bT), .int .i64 (max (aL + aW) (bL + bW) - min aL bL), .int .i64 (max (aT + aH) (bT + bH) - min aT bT), .slice none 0 0] 36) ∧ Hid (Blk wx gr #[.int .i64 0, .int .i64 0, .int .i64 0, .int .i64 0, .slice none 0 0] 36) ∧ Hid (Blk wx ga #[.int .i64 aL, .int .i64 aT, .int .i64 aW, .int .i64 aH, .slice Aa ar.length ca] 36) ∧ Hid (Blk wx gb #[.int .i64 bL, .int .i64 bT, .int .i64 bW, .int .i64 bH, .slice Ab br.length cb] 36) ∧ Hid (Below w.heap.size w wx))
  case first =>
    have e1 : IntKind.i64.wrap (aL + aW) = aL + aW := IntWalk.i64_in _ (by omega)
    have e2 : IntKind.i64.wrap (bL + bW) = bL + bW := IntWalk.i64_in _ (by omega)
    have e3 : IntKind.i64.wrap (aT + aH) = aT + aH := IntWalk.i64_in _ (by omega)
    have e4 : IntKind.i64.wrap (bT + bH) = bT + bH := IntWalk.i64_in _ (by omega)
    have e5 : IntKind.i64.wrap (max (aL + aW) (bL + bW) - min aL bL) = max (aL + aW) (bL + bW) - min aL bL := IntWalk.i64_in _ (by omega)
    have e6 : IntKind.i64.wrap (max (aT + aH) (bT + bH) - min aT bT) = max (aT + aH) (bT + bH) - min aT bT := IntWalk.i64_in _ (by omega)
    have s0 : ∀ v, (w6.setCell ⟨gc, 2, none⟩ v).cell? ⟨ga, 0, none⟩ = some (.int .i64 aL) := fun v => by have h := (BA6.out.far n1 2 v).cell 0; simpa only [List.getElem?_toArray, List.getElem?_cons_zero, List.getElem?_cons_succ] using h
    have t0 : ∀ v u, ((w6.setCell ⟨gc, 2, none⟩ v).setCell ⟨gc, 3, none⟩ u).cell? ⟨ga, 0, none⟩ = some (.int .i64 aL) := fun v u => by have h := ((BA6.out.far n1 2 v).far n1 3 u).cell 0; simpa only [List.getElem?_toArray, List.getElem?_cons_zero, List.getElem?_cons_succ] using h
    have s1 : ∀ v, (w6.setCell ⟨gc, 2, none⟩ v).cell? ⟨ga, 1, none⟩ = some (.int .i64 aT) := fun v => by have h := (BA6.out.far n1 2 v).cell 1; simpa only [List.getElem?_toArray, List.getElem?_cons_zero, List.getElem?_cons_succ] using h
    have t1 : ∀ v u, ((w6.setCell ⟨gc, 2, none⟩ v).setCell ⟨gc, 3, none⟩ u).cell? ⟨ga, 1, none⟩ = some (.int .i64 aT) := fun v u => by have h := ((BA6.out.far n1 2 v).far n1 3 u).cell 1; simpa only [List.getElem?_toArray, List.getElem?_cons_zero, List.getElem?_cons_succ] using h
    have s2 : ∀ v, (w6.setCell ⟨gc, 2, none⟩ v).cell? ⟨ga, 2, none⟩ = some (.int .i64 aW) := fun v => by have h := (BA6.out.far n1 2 v).cell 2; simpa only [List.getElem?_toArray, List.getElem?_cons_zero, List.getElem?_cons_succ] using h
    have t2 : ∀ v u, ((w6.setCell ⟨gc, 2, none⟩ v).setCell ⟨gc, 3, none⟩ u).cell? ⟨ga, 2, none⟩ = some (.int .i64 aW) := fun v u => by have h := ((BA6.out.far n1 2 v).far n1 3 u).cell 2; simpa only [List.getElem?_toArray, List.getElem?_cons_zero, List.getElem?_cons_succ] using h
    have s3 : ∀ v, (w6.setCell ⟨gc, 2, none⟩ v).cell? ⟨ga, 3, none⟩ = some (.int .i64 aH) := fun v => by have h := (BA6.out.far n1 2 v).cell 3; simpa only [List.getElem?_toArray, List.getElem?_cons_zero, List.getElem?_cons_succ] using h
    have t3 : ∀ v u, ((w6.setCell ⟨gc, 2, none⟩ v).setCell ⟨gc, 3, none⟩ u).cell? ⟨ga, 3, none⟩ = some (.int .i64 aH) := fun v u => by have h := ((BA6.out.far n1 2 v).far n1 3 u).cell 3; simpa only [List.getElem?_toArray, List.getElem?_cons_zero, List.getElem?_cons_succ] using h
    have s4 : ∀ v, (w6.setCell ⟨gc, 2, none⟩ v).cell? ⟨gb, 0, none⟩ = some (.int .i64 bL) := fun v => by have h := (BB6.out.far n2 2 v).cell 0; simpa only [List.getElem?_toArray, List.getElem?_cons_zero, List.getElem?_cons_succ] using h
    have t4 : ∀ v u, ((w6.setCell ⟨gc, 2, none⟩ v).setCell ⟨gc, 3, none⟩ u).cell? ⟨gb, 0, none⟩ = some (.int .i64 bL) := fun v u => by have h := ((BB6.out.far n2 2 v).far n2 3 u).cell 0; simpa only [List.getElem?_toArray, List.getElem?_cons_zero, List.getElem?_cons_succ] using h
    have s5 : ∀ v, (w6.setCell ⟨gc, 2, none⟩ v).cell? ⟨gb, 1, none⟩ = some (.int .i64 bT) := fun v => by have h := (BB6.out.far n2 2 v).cell 1; simpa only [List.getElem?_toArray, List.getElem?_cons_zero, List.getElem?_cons_succ] using h
    have t5 : ∀ v u, ((w6.setCell ⟨gc, 2, none⟩ v).setCell ⟨gc, 3, none⟩ u).cell? ⟨gb, 1, none⟩ = some (.int .i64 bT) := fun v u => by have h := ((BB6.out.far n2 2 v).far n2 3 u).cell 1; simpa only [List.getElem?_toArray, List.getElem?_cons_zero, List.getElem?_cons_succ] using h
    have s6 : ∀ v, (w6.setCell ⟨gc, 2, none⟩ v).cell? ⟨gb, 2, none⟩ = some (.int .i64 bW) := fun v => by have h := (BB6.out.far n2 2 v).cell 2; simpa only [List.getElem?_toArray, List.getElem?_cons_zero, List.getElem?_cons_succ] using h
    have t6 : ∀ v u, ((w6.setCell ⟨gc, 2, none⟩ v).setCell ⟨gc, 3, none⟩ u).cell? ⟨gb, 2, none⟩ = some (.int .i64 bW) := fun v u => by have h := ((BB6.out.far n2 2 v).far n2 3 u).cell 2; simpa only [List.getElem?_toArray, List.getElem?_cons_zero, List.getElem?_cons_succ] using h
    have s7 : ∀ v, (w6.setCell ⟨gc, 2, none⟩ v).cell? ⟨gb, 3, none⟩ = some (.int .i64 bH) := fun v => by have h := (BB6.out.far n2 2 v).cell 3; simpa only [List.getElem?_toArray, List.getElem?_cons_zero, List.getElem?_cons_succ] using h
    have t7 : ∀ v u, ((w6.setCell ⟨gc, 2, none⟩ v).setCell ⟨gc, 3, none⟩ u).cell? ⟨gb, 3, none⟩ = some (.int .i64 bH) := fun v u => by have h := ((BB6.out.far n2 2 v).far n2 3 u).cell 3; simpa only [List.getElem?_toArray, List.getElem?_cons_zero, List.getElem?_cons_succ] using h
    have s8 : ∀ v, (w6.setCell ⟨gc, 2, none⟩ v).cell? ⟨gc, 0, none⟩ = some (.int .i64 (min aL bL)) := fun v => by have h := (B6.out.set 2 v).cell 0; simpa using h
    have t8 : ∀ v u, ((w6.setCell ⟨gc, 2, none⟩ v).setCell ⟨gc, 3, none⟩ u).cell? ⟨gc, 0, none⟩ = some (.int .i64 (min aL bL)) := fun v u => by have h := ((B6.out.set 2 v).set 3 u).cell 0; simpa using h
    have s9 : ∀ v, (w6.setCell ⟨gc, 2, none⟩ v).cell? ⟨gc, 1, none⟩ = some (.int .i64 (min aT bT)) := fun v => by have h := (B6.out.set 2 v).cell 1; simpa using h
    have t9 : ∀ v u, ((w6.setCell ⟨gc, 2, none⟩ v).setCell ⟨gc, 3, none⟩ u).cell? ⟨gc, 1, none⟩ = some (.int .i64 (min aT bT)) := fun v u => by have h := ((B6.out.set 2 v).set 3 u).cell 1; simpa using h
    go_region_held3 (fun w' => w'.cell? ⟨ga, 0, none⟩ = some (.int .i64 aL) ∧ w'.cell? ⟨ga, 1, none⟩ = some (.int .i64 aT) ∧ w'.cell? ⟨ga, 2, none⟩ = some (.int .i64 aW) ∧ w'.cell? ⟨ga, 3, none⟩ = some (.int .i64 aH) ∧ w'.cell? ⟨gb, 0, none⟩ = some (.int .i64 bL) ∧ w'.cell? ⟨gb, 1, none⟩ = some (.int .i64 bT) ∧ w'.cell? ⟨gb, 2, none⟩ = some (.int .i64 bW) ∧ w'.cell? ⟨gb, 3, none⟩ = some (.int .i64 bH) ∧ w'.cell? ⟨gc, 0, none⟩ = some (.int .i64 (min aL bL)) ∧ w'.cell? ⟨gc, 1, none⟩ = some (.int .i64 (min aT bT))) (first | exact ⟨j0, j1, j2, j3, b0, b1, b2, b3, c0, c1⟩ | exact ⟨s0 _, s1 _, s2 _, s3 _, s4 _, s5 _, s6 _, s7 _, s8 _, s9 _⟩ | exact ⟨t0 _ _, t1 _ _, t2 _ _, t3 _ _, t4 _ _, t5 _ _, t6 _ _, t7 _ _, t8 _ _, t9 _ _⟩) (fail)
    all_goals
      have BCx := Lib.hid ((B6.out.put 2 (.int .i64 (max (aL + aW) (bL + bW) - min aL bL)) rfl).put 3 (.int .i64 (max (aT + aH) (bT + bH) - min aT bT)) rfl).drew
      have BRx := Lib.hid ((BR6.out.far n3 2 (.int .i64 (max (aL + aW) (bL + bW) - min aL bL))).far n3 3 (.int .i64 (max (aT + aH) (bT + bH) - min aT bT))).drew
      have BAx := Lib.hid ((BA6.out.far n1 2 (.int .i64 (max (aL + aW) (bL + bW) - min aL bL))).far n1 3 (.int .i64 (max (aT + aH) (bT + bH) - min aT bT))).drew
      have BBx := Lib.hid ((BB6.out.far n2 2 (.int .i64 (max (aL + aW) (bL + bW) - min aL bL))).far n2 3 (.int .i64 (max (aT + aH) (bT + bH) - min aT bT))).drew
      have HBx := Lib.hid (bdrew (bset (bset HB7.out HGC' 2 (.int .i64 (max (aL + aW) (bL + bW) - min aL bL))) HGC' 3 (.int .i64 (max (aT + aH) (bT + bH) - min aT bT))))
      go_wp2_with fail
      go_meet
      case rel => exact ⟨BCx, BRx, BAx, BBx, HBx⟩
  case rest =>
    obtain ⟨BC, BR, BA, BB, HBC⟩ := hcut
    have hd1 : min aL bL ≤ aL ∧ min aL bL ≤ bL ∧ -10000 ≤ min aL bL := by omega
    have hd2 : min aT bT ≤ aT ∧ min aT bT ≤ bT ∧ -10000 ≤ min aT bT := by omega
    obtain ⟨L, hL⟩ : ∃ L, min aL bL = L := ⟨_, rfl⟩
    obtain ⟨T, hT⟩ : ∃ T, min aT bT = T := ⟨_, rfl⟩
    rw [hL] at hd1
    rw [hT] at hd2
    rw [hL, hT] at BC
    have hd3 : aL + aW ≤ L + (max (aL + aW) (bL + bW) - L) ∧ bL + bW ≤ L + (max (aL + aW) (bL + bW) - L) ∧ max (aL + aW) (bL + bW) - L ≤ 40000 ∧ 1 ≤ max (aL + aW) (bL + bW) - L := by omega
    have hd4 : aT + aH ≤ T + (max (aT + aH) (bT + bH) - T) ∧ bT + bH ≤ T + (max (aT + aH) (bT + bH) - T) ∧ max (aT + aH) (bT + bH) - T ≤ 40000 ∧ 1 ≤ max (aT + aH) (bT + bH) - T := by omega
    obtain ⟨W, hW⟩ : ∃ W, max (aL + aW) (bL + bW) - L = W := ⟨_, rfl⟩
    obtain ⟨H, hH⟩ : ∃ H, max (aT + aH) (bT + bH) - T = H := ⟨_, rfl⟩
    rw [hW] at hd3 BC
    rw [hH] at hd4 BC
    have OL : Hid (orL ⟨aL, aT, aW, aH, ar⟩ ⟨bL, bT, bW, bH, br⟩ = L) := Lib.hid (by unfold orL; exact hL)
    have OT : Hid (orT ⟨aL, aT, aW, aH, ar⟩ ⟨bL, bT, bW, bH, br⟩ = T) := Lib.hid (by unfold orT; exact hT)
    have OW : Hid (orW ⟨aL, aT, aW, aH, ar⟩ ⟨bL, bT, bW, bH, br⟩ = W) := Lib.hid (by unfold orW; rw [OL.out]; exact hW)
    have OH : Hid (orH ⟨aL, aT, aW, aH, ar⟩ ⟨bL, bT, bW, bH, br⟩ = H) := Lib.hid (by unfold orH; rw [OT.out]; exact hH)
    clear hL hT hW hH j0 j1 j2 j3 b0 b1 b2 b3 c0 c1 c2 c3 f2 f3
    have g2 := BC.out.cell 2
    have g3 := BC.out.cell 3
    simp only [List.getElem?_toArray, List.getElem?_cons_zero, List.getElem?_cons_succ] at g2 g3
    by_cases hbig : 64 < W ∨ 64 < H
    · have HE : Hid (ob = (Bm.zero, 3)) := Lib.hid (by
        rw [← HOB.out]
        unfold orB
        rw [if_neg (by unfold Bm.right; simp [HRTA.out, HRTB.out]), if_neg (by simpa using haz), if_neg (by simpa using hbz), OW.out, OH.out, if_pos hbig])
      have r0 := BR.out.cell 0
      have r1 := BR.out.cell 1
      have r2 := BR.out.cell 2
      have r3 := BR.out.cell 3
      have r4 := BR.out.cell 4
      simp only [List.getElem?_toArray, List.getElem?_cons_zero, List.getElem?_cons_succ] at r0 r1 r2 r3 r4
      have z0 := BR.out.frozen 0
      have z1 := BR.out.frozen 1
      have z2 := BR.out.frozen 2
      have z3 := BR.out.frozen 3
      have z4 := BR.out.frozen 4
      clear hd1 hd2
      by_cases hx : 64 < W
      · clear hbig
        go_wp2_with fail
        refine bodyPost_ret (res_ct (g := gr) (cs := #[.int .i64 0, .int .i64 0, .int .i64 0, .int .i64 0, .slice none 0 0]) rfl _ _ _ _ rfl (((((BR.out.put 0 _ rfl).put 1 _ rfl).put 2 _ rfl).put 3 _ rfl).put 4 _ rfl) rfl hu36 (by kernel_rfl)) rfl ?_
        rw [HE.out]
        exact ⟨_, rfl, Kd.R_nil _ _ _ _ _, bset (bset (bset (bset (bset HBC.out HG2.out 0 _) HG2.out 1 _) HG2.out 2 _) HG2.out 3 _) HG2.out 4 _⟩
      · have hy : 64 < H := by omega
        clear hbig
        go_wp2_with fail
        refine bodyPost_ret (res_ct (g := gr) (cs := #[.int .i64 0, .int .i64 0, .int .i64 0, .int .i64 0, .slice none 0 0]) rfl _ _ _ _ rfl (((((BR.out.put 0 _ rfl).put 1 _ rfl).put 2 _ rfl).put 3 _ rfl).put 4 _ rfl) rfl hu36 (by kernel_rfl)) rfl ?_
        rw [HE.out]
        exact ⟨_, rfl, Kd.R_nil _ _ _ _ _, bset (bset (bset (bset (bset HBC.out HG2.out 0 _) HG2.out 1 _) HG2.out 2 _) HG2.out 3 _) HG2.out 4 _⟩
    have hx : W ≤ 64 := by omega
    have hy : H ≤ 64 := by omega
    have HE : Hid (ob = (⟨L, T, W, H, orRows ⟨aL, aT, aW, aH, ar⟩ ⟨bL, bT, bW, bH, br⟩⟩, 0)) := Lib.hid (by
      rw [← HOB.out]
      unfold orB
      rw [if_neg (by unfold Bm.right; simp [HRTA.out, HRTB.out]), if_neg (by simpa using haz), if_neg (by simpa using hbz), OW.out, OH.out, if_neg hbig, OL.out, OT.out])
    clear hbig
    obtain ⟨N, rfl⟩ : ∃ N : Nat, H = N := ⟨H.toNat, by omega⟩
    have mk := print_make_int (P := Tryd.prog) 34 59 (.int .u64 0) 8 Tryd.underlying34 info59 rfl (by decide) (N : Int) (by omega) (by omega)
    have own := fun W => own_made' W W.heap.size 59 .u64 N (Nat.le_refl _) (by omega)
    rw [Int.toNat_natCast] at mk
    go_upto_region 13 with fail
    have g4 := BC.out.cell 4
    have y4 := BC.out.frozen 4
    simp only [List.getElem?_toArray, List.getElem?_cons_zero, List.getElem?_cons_succ] at g4
    have BC1 := BC.out.alloc (.cells (madeCells #[.int .u64 0] N) 59)
    have q4 := BC1.cell 4
    have p4 := BC1.frozen 4
    simp only [List.getElem?_toArray, List.getElem?_cons_zero, List.getElem?_cons_succ] at q4
    go_upto_region 14 with fail
    have hq : ∀ q, q ∈ 59 :: (Kd.int .u64).E → q ≠ 36 := by intro q hq; simp [Kd.int, Kd.scalar] at hq; omega
    have RM0 : Kd.R (Kd.int .u64) 59 (wc.alloc (.cells (madeCells #[.int .u64 0] N) 59)) wc.heap.size (fun k => k = wc.heap.size) (.slice (some ⟨wc.heap.size, 0, none⟩) N N) (List.replicate N 0) := by
      refine Kd.R_of_own (enc := Value.int .u64) (h1 := fun _ => rfl) ?_ (fun k hk => by simpa [Value.ownBlock] using hk.symm)
      have h := own wc
      exact h
    have RM := Lib.hid (Kd.R_set RM0 BC1 hq 4 (.slice (some ⟨wc.heap.size, 0, none⟩) N N))
    have BC2 := Lib.hid (BC1.put 4 (.slice (some ⟨wc.heap.size, 0, none⟩) N N) rfl)
    have BR2 := Lib.hid ((BR.out.alloc (.cells (madeCells #[.int .u64 0] N) 59)).far n3 4 (.slice (some ⟨wc.heap.size, 0, none⟩) N N))
    have BA2 := Lib.hid ((BA.out.alloc (.cells (madeCells #[.int .u64 0] N) 59)).far n1 4 (.slice (some ⟨wc.heap.size, 0, none⟩) N N))
    have BB2 := Lib.hid ((BB.out.alloc (.cells (madeCells #[.int .u64 0] N) 59)).far n2 4 (.slice (some ⟨wc.heap.size, 0, none⟩) N N))
    have HB2 := Lib.hid (bset (balloc HBC.out (.cells (madeCells #[.int .u64 0] N) 59)) HGC' 4 (.slice (some ⟨wc.heap.size, 0, none⟩) N N))
    have lr := BR.out.lt
    have la := BA.out.lt
    have lb := BB.out.lt
    have lc := BC.out.lt
    have hgm := HBC.out.size
    clear RM0 BC1 q4 p4 g4 y4 own mk
    generalize hgmE : wc.heap.size = gm at *
    have p1 : gr ≠ gm := by omega
    have p2 : gc ≠ gm := by omega
    have HGM := Lib.hid hgm
    generalize World.setCell _ _ _ = w14 at *
    have GME := Lib.hid hgmE
    clear lr la lb lc hgm hgmE g2 g3
    have a0 := BA2.out.cell 0
    have a1 := BA2.out.cell 1
    have a2 := BA2.out.cell 2
    have a3 := BA2.out.cell 3
    have a4 := BA2.out.cell 4
    have b0 := BB2.out.cell 0
    have b1 := BB2.out.cell 1
    have b2 := BB2.out.cell 2
    have b3 := BB2.out.cell 3
    have b4 := BB2.out.cell 4
    simp only [List.getElem?_toArray, List.getElem?_cons_zero, List.getElem?_cons_succ] at a0 a1 a2 a3 a4 b0 b1 b2 b3 b4
    go_upto_region 15 with fail
    obtain ⟨w15, gs, hw, hg, BS, HB15, HN15⟩ := new_box w14 #[.int .i64 aL, .int .i64 aT, .int .i64 aW, .int .i64 aH, .slice Aa ar.length ca, .int .i64 bL, .int .i64 bT, .int .i64 bW, .int .i64 bH, .slice Ab br.length cb] 36
    rw [hw, hg]
    have RM3 := Lib.hid (Kd.R_below RM.out HB15.out)
    have BC3 := Lib.hid (BC2.out.below HB15.out)
    have BR3 := Lib.hid (BR2.out.below HB15.out)
    have HB3 := Lib.hid (bthen' HB2.out HB15.out)
    have hgs := Nat.le_of_eq hg
    have p3 : gs ≠ gm := by have h := Kd.R_lt RM.out gm rfl; omega
    clear hw hg HN15 a0 a1 a2 a3 a4 b0 b1 b2 b3 b4 hgs
    obtain ⟨ad, had⟩ : ∃ ad : Addr, (⟨gs, 0, none⟩ : Addr) = ad := ⟨_, rfl⟩
    rw [had]
    have HAD := Lib.hid had
    clear had
    have HST0 : Hid (orStage ⟨aL, aT, aW, aH, ar⟩ ⟨bL, bT, bW, bH, br⟩ 0 = List.replicate N 0) := Lib.hid (by unfold orStage; rw [OH.out, Int.toNat_natCast])
    have HSTL : Hid (∀ j, (orStage ⟨aL, aT, aW, aH, ar⟩ ⟨bL, bT, bW, bH, br⟩ j).length = N) := Lib.hid (fun j => by rw [orStage_length, OH.out, Int.toNat_natCast])
    go_loopw [97] (fun i wr => ∃ j : Nat, j ≤ 2 ∧ i = .int .i64 j ∧ Hid (Kd.R (Kd.int .u64) 59 wr gm (fun k => k = gm) (.slice (some ⟨gm, 0, none⟩) N N) (orStage ⟨aL, aT, aW, aH, ar⟩ ⟨bL, bT, bW, bH, br⟩ j)) ∧ Hid (Blk wr gc #[.int .i64 L, .int .i64 T, .int .i64 W, .int .i64 N, .slice (some ⟨gm, 0, none⟩) N N] 36) ∧ Hid (Blk wr gr #[.int .i64 0, .int .i64 0, .int .i64 0, .int .i64 0, .slice none 0 0] 36) ∧ Hid (Blk wr gs #[.int .i64 aL, .int .i64 aT, .int .i64 aW, .int .i64 aH, .slice Aa ar.length ca, .int .i64 bL, .int .i64 bT, .int .i64 bW, .int .i64 bH, .slice Ab br.length cb] 36) ∧ Hid (Below w.heap.size w wr) ∧ Hid (Words (orStage ⟨aL, aT, aW, aH, ar⟩ ⟨bL, bT, bW, bH, br⟩ j))) (fun i _ => 2 - (intOf i).toNat)
    case atStart => exact ⟨0, by omega, rfl, Lib.hid (by rw [HST0.out]; exact RM3.out), BC3, BR3, BS, HB3, Lib.hid (by rw [HST0.out]; exact Words.zeros N)⟩
    case round =>
    obtain ⟨j, hj, rfl, RMr, BCr, BRr, BSr, HBr, HWr⟩ := hrel
    by_cases hlt : j < 2
    · obtain ⟨m, Am, cm, hm, hAm, hcm, h0, h1, h2, h3, h4⟩ := two_cells ⟨aL, aT, aW, aH, ar⟩ ⟨bL, bT, bW, bH, br⟩ Aa Ab ca cb BSr.out j hlt
      rw [HAD.out] at h0 h1 h2 h3 h4
      have hst : orStage ⟨aL, aT, aW, aH, ar⟩ ⟨bL, bT, bW, bH, br⟩ (j + 1) = orPut ⟨aL, aT, aW, aH, ar⟩ ⟨bL, bT, bW, bH, br⟩ m (orStage ⟨aL, aT, aW, aH, ar⟩ ⟨bL, bT, bW, bH, br⟩ j) := by rw [hm]; rfl
      have hmf : Kd.C (Kd.int .u64) w Am m.rows.length m.rows ∧ m.rows.length ≤ cm ∧ Words m.rows ∧ (∀ r ∈ m.rows, r.toNat < 2 ^ m.W.toNat) ∧ (m.rows.length : Int) = m.H ∧ L ≤ m.L ∧ m.L + m.W ≤ L + W ∧ T ≤ m.T ∧ m.T + m.H ≤ T + N ∧ 1 ≤ m.W := by
        rw [hm, hAm, hcm]
        split
        · exact ⟨HRA.out, HCA.out, HUA.out, ok_row (right_ok (b := ⟨aL, aT, aW, aH, ar⟩) HRTA.out (by simpa using haz)) HUA.out, AHL.out, hd1.1, hd3.1, hd2.1, hd4.1, aW1⟩
        · exact ⟨HRB.out, HCB.out, HUB.out, ok_row (right_ok (b := ⟨bL, bT, bW, bH, br⟩) HRTB.out (by simpa using hbz)) HUB.out, BHL.out, hd1.2.1, hd3.2.1, hd2.2.1, hd4.2.1, bW1⟩
      obtain ⟨mL, mT, mW, mH, mr⟩ := m
      dsimp only at h0 h1 h2 h3 h4 hmf
      obtain ⟨hC, hcm2, hU, hP, hHl, hL1, hL2, hT1, hT2, hW1⟩ := hmf
      have HCM := Lib.hid hC
      have HCL := Lib.hid hcm2
      have HUM := Lib.hid hU
      have HPM := Lib.hid hP
      have HST := Lib.hid hst
      have hml : (mr.length : Int) + mT ≤ T + N := by omega
      have hlt' : (j : Int) < 2 := by omega
      clear hC hcm2 hU hP hHl hst hm hAm hcm hlt
      go_upto_region 17 with fail
      obtain ⟨w16, gx, hw, hg, BX, HBX, HNX⟩ := new_box wr #[.int .i64 mL, .int .i64 mT, .int .i64 mW, .int .i64 mH, .slice Am mr.length cm] 36
      rw [hw, hg]
      have RM4 := Lib.hid (Kd.R_below RMr.out HBX.out)
      have BC4 := Lib.hid (BCr.out.below HBX.out)
      have BR4 := Lib.hid (BRr.out.below HBX.out)
      have BS4 := Lib.hid (BSr.out.below HBX.out)
      have HB4 := Lib.hid (bthen' HBr.out HBX.out)
      have hgx := Nat.le_of_eq hg
      have p4 : gx ≠ gm := by have h := Kd.R_lt RMr.out gm rfl; omega
      clear hw hg HNX h0 h1 h2 h3 h4 hgx
      have x4 := BX.out.cell 4
      simp only [List.getElem?_toArray, List.getElem?_cons_zero, List.getElem?_cons_succ] at x4
      obtain ⟨off, hoff⟩ : ∃ off : Nat, (mT - T).toNat = off := ⟨_, rfl⟩
      obtain ⟨sh, hsh⟩ : ∃ sh : Nat, (mL - L).toNat = sh := ⟨_, rfl⟩
      obtain ⟨sj, hsj⟩ : ∃ sj, orStage ⟨aL, aT, aW, aH, ar⟩ ⟨bL, bT, bW, bH, br⟩ j = sj := ⟨_, rfl⟩
      have HST2 : Hid (orStage ⟨aL, aT, aW, aH, ar⟩ ⟨bL, bT, bW, bH, br⟩ (j + 1) = orInto off sh mr mr.length sj) := Lib.hid (by
        rw [HST.out]
        unfold orPut
        dsimp only
        rw [OT.out, OL.out, hoff, hsh, hsj])
      have hsl : Hid (sj.length = N) := Lib.hid (by rw [← hsj]; exact HSTL.out j)
      rw [hsj] at RM4 HWr
      have ho1 : mT - T = off := by omega
      have hs1 : mL - L = sh := by omega
      have hoN : off + mr.length ≤ N := by omega
      have hsW : (sh : Int) + mW ≤ 64 := by omega
      have HO1 := Lib.hid ho1
      have HS1 := Lib.hid hs1
      have hmr : mr.length ≤ 64 := by omega
      clear hoff hsh hsj hml x4 ho1 hs1
      have x4 := BX.out.cell 4
      simp only [List.getElem?_toArray, List.getElem?_cons_zero, List.getElem?_cons_succ] at x4
      go_wp2_with fail
      generalize hwr : wr = wo at *
      have HWO := Lib.hid hwr
      clear hwr
      go_loopw [104] (fun i wr => ∃ k : Nat, k ≤ mr.length ∧ i = .int .i64 k ∧ Hid (Kd.R (Kd.int .u64) 59 wr gm (fun k => k = gm) (.slice (some ⟨gm, 0, none⟩) N N) (orInto off sh mr k sj)) ∧ Hid (Blk wr gc #[.int .i64 L, .int .i64 T, .int .i64 W, .int .i64 N, .slice (some ⟨gm, 0, none⟩) N N] 36) ∧ Hid (Blk wr gr #[.int .i64 0, .int .i64 0, .int .i64 0, .int .i64 0, .slice none 0 0] 36) ∧ Hid (Blk wr gs #[.int .i64 aL, .int .i64 aT, .int .i64 aW, .int .i64 aH, .slice Aa ar.length ca, .int .i64 bL, .int .i64 bT, .int .i64 bW, .int .i64 bH, .slice Ab br.length cb] 36) ∧ Hid (Blk wr gx #[.int .i64 mL, .int .i64 mT, .int .i64 mW, .int .i64 mH, .slice Am mr.length cm] 36) ∧ Hid (Below w.heap.size w wr) ∧ Hid (Words (orInto off sh mr k sj))) (fun i _ => mr.length - (intOf i).toNat)
      case atStart => exact ⟨0, Nat.zero_le _, rfl, RM4, BC4, BR4, BS4, BX, HB4, HWr⟩
      case round =>
      obtain ⟨k, hk, rfl, RMk, BCk, BRk, BSk, BXk, HBk, HWk⟩ := hrel
      by_cases hltk : k < mr.length
      · have HRk := (Kd.reads_of_C (d := 0) (Kd.C_below HCM.out HBk.out) : ReadsOf (Value.int .u64) 0 wr Am mr.length mr)
        obtain ⟨ad2, hA2, hcell⟩ := HRk.2.2 (by omega)
        have hx0 := hcell k hltk
        subst hA2
        have hltk' : (k : Int) < mr.length := by omega
        have hkc : (mr.length : Int) ≤ cm := by have := HCL.out; omega
        have hru := getD_u64 HUM.out k
        have hrp : (mr.getD k 0).toNat < 2 ^ mW.toNat := HPM.out _ (by rw [List.getD_eq_getElem?_getD, List.getElem?_eq_getElem hltk]; exact List.getElem_mem hltk)
        have hstep : orInto off sh mr (k + 1) sj = (orInto off sh mr k sj).set (off + k) (orAt ((orInto off sh mr k sj).getD (off + k) 0) (mr.getD k 0) sh) := rfl
        have hll : (orInto off sh mr k sj).length = N := by rw [orInto_length]; exact hsl.out
        generalize orInto off sh mr k sj = sk at *
        generalize mr.getD k 0 = r at *
        have HSTEP := Lib.hid hstep
        have HRU := Lib.hid hru
        have HRP := Lib.hid hrp
        have HLL := Lib.hid hll
        clear hstep hru hrp hll hcell HRk hltk
        go_upto_region 20 with fail
        have RMk' : Kd.R (Kd.int .u64) 59 wr gm (fun k => k = gm) (.slice (some ⟨gm, 0, none⟩) sk.length N) sk := by rw [HLL.out]; exact RMk.out
        have hRC := Kd.R_cell (enc := Value.int .u64) (h1 := fun _ => rfl) (0 : Int) RMk' ((off : Int) + k) (by omega) (by rw [HLL.out]; omega)
        have htn : ((off : Int) + k).toNat = off + k := by omega
        have hrd : rdOf (0 : Int) sk ((off : Int) + k) = sk.getD (off + k) 0 := by unfold rdOf; rw [htn]
        rw [hrd, htn] at hRC
        obtain ⟨y0, yf⟩ := hRC
        obtain ⟨x, hx⟩ : ∃ x, sk.getD (off + k) 0 = x := ⟨_, rfl⟩
        rw [hx] at y0
        have HX := Lib.hid hx
        have d4 := BCk.out.cell 4
        have d0 := BCk.out.cell 0
        have d1 := BCk.out.cell 1
        have x0 := BXk.out.cell 0
        have x1 := BXk.out.cell 1
        simp only [List.getElem?_toArray, List.getElem?_cons_zero, List.getElem?_cons_succ] at d4 d0 d1 x0 x1
        have i1 : (0 : Int) ≤ (off : Int) + k := by omega
        have i2 : (off : Int) + k < N := by omega
        have i3 : (0 : Int) ≤ (sh : Int) := by omega
        have e1 : IntKind.i64.wrap (mT - T) = (off : Int) := by have h := HO1.out; rw [h]; exact IntWalk.i64_in _ (by omega)
        have e2 : IntKind.i64.wrap ((off : Int) + (k : Int)) = (off : Int) + k := IntWalk.i64_in _ (by omega)
        have e3 : IntKind.i64.wrap (mL - L) = (sh : Int) := by have h := HS1.out; rw [h]; exact IntWalk.i64_in _ (by omega)
        clear hx hrd RMk' x4
        go_still_tail 20, (by kernel_rfl)
        change wpList _ _ _ _ _ wr.drew
        have RMd := Lib.hid (Kd.R_drew RMk.out)
        have BCd := Lib.hid BCk.out.drew
        have BRd := Lib.hid BRk.out.drew
        have BSd := Lib.hid BSk.out.drew
        have BXd := Lib.hid BXk.out.drew
        have HBd := Lib.hid (bdrew HBk.out)
        have y0d : wr.drew.cell? ⟨gm, off + k, none⟩ = some (.int .u64 x) := y0
        have yfd : wr.drew.frozen? ⟨gm, off + k, none⟩ = false := yf
        clear y0 yf d4 d0 d1 x0 x1 e1 e2 e3
        generalize wr.drew = w2 at *
        go_wp2_with fail
        have hux : Words [x] := Words.one (by rw [← HX.out]; exact HWk.out.getD _)
        have hfit : r.toNat * 2 ^ sh < 18446744073709551616 := shl_fits HRP.out (by omega)
        rw [orAt_bits hux.head HRU.out hfit]
        have hput := (Kd.R_put (enc := Value.int .u64) (h1 := fun _ => rfl) (by rw [HLL.out]; exact RMd.out : Kd.R (Kd.int .u64) 59 w2 gm (fun k => k = gm) (.slice (some ⟨gm, 0, none⟩) sk.length N) sk) ((off : Int) + k) (orAt x r sh)).1
        rw [htn, HLL.out] at hput
        refine ⟨⟨k + 1, by omega, by go_num, Lib.hid (by rw [HSTEP.out, HX.out]; exact hput), Lib.hid (BCd.out.far p2 _ _), Lib.hid (BRd.out.far p1 _ _), Lib.hid (BSd.out.far p3 _ _), Lib.hid (BXd.out.far p4 _ _), Lib.hid (bset HBd.out HGM.out _ _), Lib.hid (by rw [HSTEP.out, HX.out]; exact HWk.out.set (orAt_u64 hux.head hfit))⟩, by simp [intOf]; omega⟩
      obtain rfl : k = mr.length := by omega
      have hstage := HST2.out
      rw [← hstage] at RMk HWk
      clear hstage
      go_wp2_with fail
      exact ⟨⟨j + 1, by omega, by go_num, RMk, BCk, BRk, BSk, HBk, HWk⟩, by simp [intOf]; omega⟩
    obtain rfl : j = 2 := by omega
    rw [← orRows_stage] at RMr
    have d0 := BCr.out.cell 0
    have d1 := BCr.out.cell 1
    have d2 := BCr.out.cell 2
    have d3 := BCr.out.cell 3
    have d4 := BCr.out.cell 4
    have r0 := BRr.out.cell 0
    have r1 := BRr.out.cell 1
    have r2 := BRr.out.cell 2
    have r3 := BRr.out.cell 3
    have r4 := BRr.out.cell 4
    simp only [List.getElem?_toArray, List.getElem?_cons_zero, List.getElem?_cons_succ] at d0 d1 d2 d3 d4 r0 r1 r2 r3 r4
    have z0 := BRr.out.frozen 0
    have z1 := BRr.out.frozen 1
    have z2 := BRr.out.frozen 2
    have z3 := BRr.out.frozen 3
    have z4 := BRr.out.frozen 4
    go_wp2_with fail
    refine bodyPost_ret (res_ct (g := gr) (cs := #[.int .i64 L, .int .i64 T, .int .i64 W, .int .i64 N, .slice (some ⟨gm, 0, none⟩) N N]) rfl _ _ _ _ rfl (((((BRr.out.put 0 _ rfl).put 1 _ rfl).put 2 _ rfl).put 3 _ rfl).put 4 _ rfl) rfl hu36 (by kernel_rfl)) rfl ?_
    rw [HE.out]
    refine ⟨_, rfl, ?_, bset (bset (bset (bset (bset HBr.out HG2.out 0 _) HG2.out 1 _) HG2.out 2 _) HG2.out 3 _) HG2.out 4 _⟩
    have hV := Kd.R_mono (ok' := fun _ => True) (Kd.R_lower RMr.out HGM.out) (fun _ _ => trivial)
    exact Kd.R_set (Kd.R_set (Kd.R_set (Kd.R_set (Kd.R_set hV BRr.out hq 0 _) (BRr.out.set 0 _) hq 1 _) ((BRr.out.set 0 _).set 1 _) hq 2 _) (((BRr.out.set 0 _).set 1 _).set 2 _) hq 3 _) ((((BRr.out.set 0 _).set 1 _).set 2 _).set 3 _) hq 4 _
end Go.Proofs.YtleljodcdbhifaaDoor
/- Whether a bitmap has a pixel. -/
set_option linter.unusedVariables false
set_option linter.unusedSimpArgs false
namespace Go.Proofs.YtleljodcdbhifaaDoor
open Go.RowKit Go.Proofs.YtleljodcdbhifaaDoorW.PrintWords Go.Proofs.YtleljodcdbhifaaDoorW.PrintLast Go.Proofs.YtleljodcdbhifaaDoorW.PrintMore Hy
attribute [local go_sem ↓] Go.wp_at_zero Go.wp_at_succ
/-- the pixel at a place -/
def Bm.pix (b : Bm) (x y : Int) : Bool := decide (b.L ≤ x ∧ x < b.L + b.W ∧ b.T ≤ y ∧ y < b.T + b.H) && (b.rows.getD (y - b.T).toNat 0).toNat.testBit (x - b.L).toNat
def getB (b : Bm) (x y : Int) : Bool := rightB b.L b.T b.W b.H b.rows && b.pix x y
theorem right_bounds {L T W H : Int} {l : List Int} (h : rightB L T W H l = true) : (0 ≤ W ∧ W ≤ 64) ∧ (0 ≤ H ∧ H ≤ 64) ∧ (l.length : Int) = H ∧ (-10000 ≤ L ∧ L ≤ 10001) ∧ (-10000 ≤ T ∧ T ≤ 10001) := by
  unfold rightB at h
  rw [Bool.or_eq_true] at h
  rcases h with h | h
  · unfold zeroB at h
    have := of_decide_eq_true h
    omega
  · unfold okB at h
    rw [Bool.and_eq_true] at h
    have := of_decide_eq_true h.1
    omega
theorem and_pow (n s : Nat) : n &&& 2 ^ s = if n.testBit s then 2 ^ s else 0 := by
  apply Nat.eq_of_testBit_eq
  intro i
  rw [Nat.testBit_and, Nat.testBit_two_pow]
  by_cases h : s = i
  · subst h
    cases hb : n.testBit s <;> simp [hb, Nat.testBit_two_pow_self]
  · cases hb : n.testBit s <;> simp [h, Nat.testBit_two_pow]
theorem and_bit (r : Int) (s : Nat) (hr : u64 r) (hs : s < 64) : (Go.bits .and .u64 r (IntKind.u64.wrap (2 ^ s)) != 0) = r.toNat.testBit s := by
  unfold u64 at hr
  obtain ⟨n, rfl⟩ : ∃ n : Nat, r = n := ⟨r.toNat, by omega⟩
  have hp : 2 ^ s < 2 ^ 64 := Nat.pow_lt_pow_right (by decide) hs
  have e : IntKind.u64.wrap ((2 : Int) ^ s) = ((2 ^ s : Nat) : Int) := by
    rw [show (2 : Int) ^ s = ((2 ^ s : Nat) : Int) by simp]
    generalize 2 ^ s = m at hp
    exact IntWalk.u64_in _ (by omega)
  rw [e, bits_and_u64_nat n (2 ^ s) (by omega) (by omega), Int.toNat_natCast, and_pow]
  have h2 := Nat.two_pow_pos s
  clear e
  generalize 2 ^ s = m at *
  cases n.testBit s
  · rfl
  · rw [if_pos rfl, bne_iff_ne]
    omega
set_option maxRecDepth 100000 in
set_option maxHeartbeats 4000000 in
theorem get_any (L T W H x y : Int) (A : Option Addr) (c : Nat) (l : List Int) (w : World) (hr : Kd.C (Kd.int .u64) w A l.length l) (hc : l.length ≤ c) (hu : ∀ r ∈ l, u64 r) :
    Calls Tryd.prog 22 #[.agg #[.int .i64 L, .int .i64 T, .int .i64 W, .int .i64 H, .slice A l.length c], .int .i64 x, .int .i64 y] w fun e w' => e = .returned (.bool (getB ⟨L, T, W, H, l⟩ x y)) ∧ Below w.heap.size w w' := by
  have hu36 := Tryd.underlying36
  have HR := Lib.hid hr
  have HC := Lib.hid hc
  have HU := Lib.hid hu
  clear hr hc hu
  go_enter Tryd.func22, Tryd.ntmps22
  go_wp2_with fail
  obtain ⟨w1, g, hw, hg, B1, HB1, _⟩ := new_box w #[.int .i64 L, .int .i64 T, .int .i64 W, .int .i64 H, .slice A l.length c] 36
  rw [hw, hg]
  clear hw hg
  have q0 := B1.out.cell 0
  have q1 := B1.out.cell 1
  have q2 := B1.out.cell 2
  have q3 := B1.out.cell 3
  have q4 := B1.out.cell 4
  simp only [List.getElem?_toArray, List.getElem?_cons_zero, List.getElem?_cons_succ] at q0 q1 q2 q3 q4
  go_wp2_with fail
  refine (Hy.scan_Right.calls L T W H A c l (rightB L T W H l) w1 (Kd.C_below HR.out HB1.out) HC.out (by rw [Hy.scan_Right.f, if_pos HU.out])).mono ?_
  rintro e w2 ⟨rfl, hb⟩
  have HB2 := Lib.hid (bthen' HB1.out hb)
  have B2 := Lib.hid (B1.out.below hb)
  have HR2 := Lib.hid (Kd.C_below HR.out HB2.out)
  clear hb q0 q1 q2 q3 q4 B1 HB1 HR
  have q0 := B2.out.cell 0
  have q1 := B2.out.cell 1
  have q2 := B2.out.cell 2
  have q3 := B2.out.cell 3
  have q4 := B2.out.cell 4
  simp only [List.getElem?_toArray, List.getElem?_cons_zero, List.getElem?_cons_succ] at q0 q1 q2 q3 q4
  have HG : Hid (getB ⟨L, T, W, H, l⟩ x y = (rightB L T W H l && (⟨L, T, W, H, l⟩ : Bm).pix x y)) := Lib.hid rfl
  have HP : Hid ((⟨L, T, W, H, l⟩ : Bm).pix x y = (decide (L ≤ x ∧ x < L + W ∧ T ≤ y ∧ y < T + H) && (l.getD (y - T).toNat 0).toNat.testBit (x - L).toNat)) := Lib.hid rfl
  have HRB : Hid (rightB L T W H l = true → (0 ≤ W ∧ W ≤ 64) ∧ (0 ≤ H ∧ H ≤ 64) ∧ (l.length : Int) = H ∧ (-10000 ≤ L ∧ L ≤ 10001) ∧ (-10000 ≤ T ∧ T ≤ 10001)) := Lib.hid right_bounds
  generalize rightB L T W H l = rb at *
  cases rb
  · go_wp2_with fail
    go_ret
    exact ⟨by rw [HG.out]; rfl, HB2.out⟩
  · have hbd := HRB.out rfl
    obtain ⟨hW, hH, hlen, hL, hT⟩ := hbd
    have hlw : IntKind.i64.wrap (L + W) = L + W := IntWalk.i64_in _ (by omega)
    have hth : IntKind.i64.wrap (T + H) = T + H := IntWalk.i64_in _ (by omega)
    have fin : ∀ P : Prop, ¬ P → (P ↔ (L ≤ x ∧ x < L + W ∧ T ≤ y ∧ y < T + H)) → getB ⟨L, T, W, H, l⟩ x y = false := by
      intro P hP hiff
      rw [HG.out, HP.out, decide_eq_false (fun h => hP (hiff.2 h))]; rfl
    by_cases c1 : x < L
    · have d1 := decide_eq_true c1
      have F := Lib.hid (fin False (fun h => h) ⟨fun h => h.elim, fun h => by omega⟩)
      clear fin c1
      go_wp2_with fail
      go_ret
      exact ⟨by rw [F.out]; rfl, HB2.out⟩
    have d1 := decide_eq_false c1
    by_cases c2 : L + W ≤ x
    · have d2 := decide_eq_true c2
      have F := Lib.hid (fin False (fun h => h) ⟨fun h => h.elim, fun h => by omega⟩)
      clear fin c2 c1
      go_wp2_with fail
      go_ret
      exact ⟨by rw [F.out]; rfl, HB2.out⟩
    have d2 := decide_eq_false c2
    by_cases c3 : y < T
    · have d3 := decide_eq_true c3
      have F := Lib.hid (fin False (fun h => h) ⟨fun h => h.elim, fun h => by omega⟩)
      clear fin c2 c1 c3
      go_wp2_with fail
      go_ret
      exact ⟨by rw [F.out]; rfl, HB2.out⟩
    have d3 := decide_eq_false c3
    by_cases c4 : T + H ≤ y
    · have d4 := decide_eq_true c4
      have F := Lib.hid (fin False (fun h => h) ⟨fun h => h.elim, fun h => by omega⟩)
      clear fin c2 c1 c3 c4
      go_wp2_with fail
      go_ret
      exact ⟨by rw [F.out]; rfl, HB2.out⟩
    have d4 := decide_eq_false c4
    clear fin
    obtain ⟨i, hi⟩ : ∃ i : Nat, y - T = i := ⟨(y - T).toNat, by omega⟩
    obtain ⟨s, hs⟩ : ∃ s : Nat, x - L = s := ⟨(x - L).toNat, by omega⟩
    have hyw : IntKind.i64.wrap (y - T) = (i : Int) := by rw [hi]; exact IntWalk.i64_in _ (by omega)
    have hxw : IntKind.i64.wrap (x - L) = (s : Int) := by rw [hs]; exact IntWalk.i64_in _ (by omega)
    have b0 : (0 : Int) ≤ (i : Int) := by omega
    have b1 : (i : Int) < (l.length : Int) := by omega
    have b2 : (0 : Int) ≤ (s : Int) := by omega
    obtain ⟨ad, rfl, hcell⟩ := Kd.at_int HR2.out (i : Int) b0 b1
    have HF : Hid (getB ⟨L, T, W, H, l⟩ x y = (rd l (i : Int)).toNat.testBit s) := Lib.hid (by
      rw [HG.out, HP.out, decide_eq_true (by omega), hi, hs]; rfl)
    have HUr : Hid (u64 (rd l (i : Int))) := Lib.hid (getD_u64 HU.out _)
    have HS : Hid (s < 64) := Lib.hid (by omega)
    rw [Int.toNat_natCast] at hcell
    generalize rd l (i : Int) = r at *
    generalize l.length = n at *
    clear hi hs c1 c2 c3 c4 HU HR2 HC HG HP HRB hW hH hlen hL hT
    go_wp2_with fail
    go_region
    go_wp2_with fail
    go_ret
    exact ⟨by rw [HF.out]; exact congrArg (fun b => Ending.returned (.bool b)) (by rw [Nat.min_eq_left (Nat.le_of_lt HS.out)]; exact and_bit r s HUr.out HS.out), bdrew HB2.out⟩
def Hy.scan_Get.f (L T W H : Int) (l : List Int) (x y : Int) : Option Bool := if ∀ r ∈ l, u64 r then some (getB ⟨L, T, W, H, l⟩ x y) else none
theorem Hy.scan_Get.calls (L T W H : Int) (A : Option Addr) (c : Nat) (l : List Int) (x y : Int) (r : Bool) (w : World) (hr : Kd.C (Kd.int .u64) w A l.length l) (hc : l.length ≤ c) (h : scan_Get.f L T W H l x y = some r) :
    Calls Tryd.prog 22 #[.agg #[.int .i64 L, .int .i64 T, .int .i64 W, .int .i64 H, .slice A l.length c], .int .i64 x, .int .i64 y] w fun e w' => e = .returned (.bool r) ∧ Below w.heap.size w w' := by
  unfold scan_Get.f at h
  split at h
  · rename_i hu
    obtain rfl := Option.some.inj h
    exact get_any L T W H x y A c l w hr hc hu
  · cases h
end Go.Proofs.YtleljodcdbhifaaDoor
/- Move of a right bitmap to a right place, and of the empty one. -/
set_option linter.unusedVariables false
set_option linter.unusedSimpArgs false
namespace Go.Proofs.YtleljodcdbhifaaDoor
open Go.RowKit Go.Proofs.YtleljodcdbhifaaDoorW.PrintWords Go.Proofs.YtleljodcdbhifaaDoorW.PrintLast Go.Proofs.YtleljodcdbhifaaDoorW.PrintMore Hy
attribute [local go_sem ↓] Go.wp_at_zero Go.wp_at_succ
attribute [local go_sem] max2_int min2_int max_two min_two
def scMove.T3 : Bool × List (List Nat × List Nat) := (true, [([], []), ([0], [0]), ([], []), ([1, 2], [1, 2]), ([], []), ([4], [4]), ([], []), ([5, 6], [5, 6]), ([], []), ([8], [8]), ([9], [9]), ([0, 1, 2, 3, 4, 5, 8, 9], []), ([11, 3, 10, 0, 1, 2, 3, 4, 5, 8, 9], [3, 11]), ([0, 1, 2, 3, 4, 5, 6, 7, 8, 9, 11, 12], []), ([13, 7, 12, 0, 1, 2, 3, 4, 5, 6, 7, 8, 9, 11, 12], [7, 13]), ([0, 1, 2, 3, 4, 5, 6, 7, 8, 9, 10, 11, 12, 13, 14], []), ([15, 10, 14, 0, 1, 2, 3, 4, 5, 6, 7, 8, 9, 10, 11, 12, 13, 14], [10, 15])])
def scMove.B3 : List Nat := [0, 1, 0, 7, 0, 16, 0, 112, 0, 256, 768, 831, 3903, 8191, 16383, 32767, 65535]
theorem scMove.tab3 : rtab .any (opsOf Tryd.f24 3) = scMove.T3 := by kernel_rfl
theorem scMove.bits3 : waitsOk scMove.T3.2 scMove.B3 = true := by kernel_rfl
theorem R_put5 {α : Type} {d : Kd α} {e : TypeId} {w : World} {base : Nat} {ok : Nat → Prop} {v : Value} {xs : List α} {g : Nat} {t : TypeId} {c0 c1 c2 c3 c4 : Value} (h : Kd.R d e w base ok v xs) (hb : Blk w g #[c0, c1, c2, c3, c4] t) (ht : ∀ q, q ∈ e :: d.E → q ≠ t) (v0 v1 v2 v3 v4 : Value) :
    Kd.R d e (((((w.setCell ⟨g, 0, none⟩ v0).setCell ⟨g, 1, none⟩ v1).setCell ⟨g, 2, none⟩ v2).setCell ⟨g, 3, none⟩ v3).setCell ⟨g, 4, none⟩ v4) base ok v xs :=
  Kd.R_set (Kd.R_set (Kd.R_set (Kd.R_set (Kd.R_set h hb ht 0 v0) (hb.set 0 v0) ht 1 v1) ((hb.set 0 v0).set 1 v1) ht 2 v2) (((hb.set 0 v0).set 1 v1).set 2 v2) ht 3 v3) ((((hb.set 0 v0).set 1 v1).set 2 v2).set 3 v3) ht 4 v4
set_option maxRecDepth 100000 in
set_option maxHeartbeats 4000000 in
theorem move_right (L T W H dx dy : Int) (A : Option Addr) (c : Nat) (l : List Int) (w : World) (hr : Kd.C (Kd.int .u64) w A l.length l) (hc : l.length ≤ c) (hu : ∀ r ∈ l, u64 r) (hR : rightB L T W H l = true) (hW : W ≠ 0) (hx : -20000 ≤ dx ∧ dx ≤ 20000) (hy : -20000 ≤ dy ∧ dy ≤ 20000) (hM : rightB (L + dx) (T + dy) W H l = true)
    (hl : l.length ≤ 64) (hL : -10000 ≤ L + dx ∧ L + dx ≤ 10001) (hT : -10000 ≤ T + dy ∧ T + dy ≤ 10001) :
    Calls Tryd.prog 24 #[.agg #[.int .i64 L, .int .i64 T, .int .i64 W, .int .i64 H, .slice A l.length c], .int .i64 dx, .int .i64 dy] w fun e w' => ∃ v, e = .returned (.agg #[.int .i64 (L + dx), .int .i64 (T + dy), .int .i64 W, .int .i64 H, v]) ∧ Kd.R (Kd.int .u64) 59 w' w.heap.size (fun _ => True) v l ∧ Below w.heap.size w w' := by
  have hu36 := Tryd.underlying36
  have HR := Lib.hid hr
  have HC := Lib.hid hc
  have HN : Hid (Hy.scan_Clone.f l = some l) := Lib.hid (if_pos (by omega))
  have HF1 : Hid (Hy.scan_Right.f L T W H l = some true) := Lib.hid (by rw [Hy.scan_Right.f, if_pos hu, hR])
  have HF2 : Hid (Hy.scan_Right.f (L + dx) (T + dy) W H l = some true) := Lib.hid (by rw [Hy.scan_Right.f, if_pos hu, hM])
  have YL := Lib.hid (show IntKind.i64.wrap (L + dx) = L + dx from IntWalk.i64_in _ (by omega))
  have YT := Lib.hid (show IntKind.i64.wrap (T + dy) = T + dy from IntWalk.i64_in _ (by omega))
  have d1 : (W == 0) = false := by simpa using hW
  obtain ⟨jx, hjx⟩ : ∃ j : Int, (if dx < dy then dy else dx) = j := ⟨_, rfl⟩
  obtain ⟨jn, hjn⟩ : ∃ j : Int, (if dy < dx then dy else dx) = j := ⟨_, rfl⟩
  have d2 : decide (20000 < jx) = false := decide_eq_false (by rw [← hjx]; split <;> omega)
  have d3 : decide (jn < -20000) = false := decide_eq_false (by rw [← hjn]; split <;> omega)
  clear hr hc hu hR hW hx hy hM hl hL hT
  go_enter Tryd.func24, Tryd.ntmps24
  go_wp2_with fail
  obtain ⟨w0, g, hw, hg, B1, HB1, _⟩ := new_box w #[.int .i64 L, .int .i64 T, .int .i64 W, .int .i64 H, .slice A l.length c] 36
  obtain ⟨w1, g6, hw6, hg6, Z1, HZ1, _⟩ := new_box w0 #[.int .i64 0, .int .i64 0, .int .i64 0, .int .i64 0, .slice none 0 0] 36
  have eg : g + 1 = g6 := by rw [← hg6, ← hw, World.size_alloc, hg]
  rw [hg, hw, hw6, eg]
  have NE := Lib.hid (show g6 ≠ g by omega)
  have GE := Lib.hid (show w.heap.size ≤ g from Nat.le_of_eq hg)
  have GE6 := Lib.hid (show w.heap.size ≤ g6 by omega)
  have HB1' := Lib.hid (bthen' HB1.out HZ1.out)
  have B1' := Lib.hid (B1.out.below HZ1.out)
  clear hw hg hw6 hg6 eg HB1 B1 HZ1
  have q0 := B1'.out.cell 0
  have q1 := B1'.out.cell 1
  have q2 := B1'.out.cell 2
  have q3 := B1'.out.cell 3
  have q4 := B1'.out.cell 4
  simp only [List.getElem?_toArray, List.getElem?_cons_zero, List.getElem?_cons_succ] at q0 q1 q2 q3 q4
  go_wp2_with fail
  refine (Hy.scan_Right.calls L T W H A c l true w1 (Kd.C_below HR.out HB1'.out) HC.out HF1.out).mono ?_
  rintro e w2 ⟨rfl, hb⟩
  have HB2 := Lib.hid (bthen' HB1'.out hb)
  have B2 := Lib.hid (B1'.out.below hb)
  have ZB2 := Lib.hid (Z1.out.below hb)
  clear hb q0 q1 q2 q3 q4 B1' HB1' Z1
  have q0 := B2.out.cell 0
  have q1 := B2.out.cell 1
  have q2 := B2.out.cell 2
  have q3 := B2.out.cell 3
  have q4 := B2.out.cell 4
  simp only [List.getElem?_toArray, List.getElem?_cons_zero, List.getElem?_cons_succ] at q0 q1 q2 q3 q4
  go_wp2_with fail
  clear q0 q1 q2 q3 q4
  refine start_ (n := 17) (S := fun w' => True) (ds := []) #[false, false, false, false, false, false, false, false, false, false, false, false, false, false, false, false, false] (by kernel_rfl) rfl rfl trivial (fun hHeld => ?_)
  refine with_tabW scMove.tab3 scMove.bits3 (fun HT_ HW_ => ?_)
  have HB : Aside0 (Below w.heap.size w w2.drew) := ⟨bdrew HB2.out⟩
  have ZB : Aside0 (Blk w2.drew g6 #[.int .i64 0, .int .i64 0, .int .i64 0, .int .i64 0, .slice none 0 0] 36) := ⟨ZB2.out.drew⟩
  have B0 : Aside0 (Blk w2.drew g #[.int .i64 L, .int .i64 T, .int .i64 W, .int .i64 H, .slice A l.length c] 36) := ⟨B2.out.drew⟩
  generalize hwd : w2.drew = w1' at *
  clear hwd
  refine inv_at [0, 1, 2, 3, 4, 5, 6, 7, 8, 9, 10, 11, 12, 13, 14, 15, 16] (fun a0_ b a w' => ∃ (v1 : Value), a = putSel a0_ b [(0, 28, .pointer (some ⟨g, 0, none⟩)), (1, 29, .int .i64 L), (2, 30, .int .i64 dx), (3, 31, .int .i64 (L + dx)), (4, 32, .pointer (some ⟨g, 1, none⟩)), (5, 33, .int .i64 T), (6, 34, .int .i64 dy), (7, 35, .int .i64 (T + dy)), (8, 36, .pointer (some ⟨g, 4, none⟩)), (9, 37, .slice A l.length c), (10, 38, v1), (11, 39, .pointer (some ⟨g, 0, none⟩)), (13, 40, .pointer (some ⟨g, 1, none⟩)), (15, 41, .pointer (some ⟨g, 4, none⟩))] ∧ (Below w.heap.size w w') ∧ (Blk w' g6 #[.int .i64 0, .int .i64 0, .int .i64 0, .int .i64 0, .slice none 0 0] 36) ∧ (b 12 = false → Blk w' g #[.int .i64 L, .int .i64 T, .int .i64 W, .int .i64 H, .slice A l.length c] 36) ∧ (b 12 = true → b 14 = false → Blk w' g #[.int .i64 (L + dx), .int .i64 T, .int .i64 W, .int .i64 H, .slice A l.length c] 36) ∧ (b 14 = true → b 16 = false → Blk w' g #[.int .i64 (L + dx), .int .i64 (T + dy), .int .i64 W, .int .i64 H, .slice A l.length c] 36) ∧ (b 16 = true → Blk w' g #[.int .i64 (L + dx), .int .i64 (T + dy), .int .i64 W, .int .i64 H, v1] 36) ∧ (b 10 = true → Kd.R (Kd.int .u64) 59 w' w.heap.size (fun _ => True) v1 l)) HT_.out HW_.out (by kernel_rfl) (by kernel_rfl) ?_ ?_ ?_
  · exact ⟨undef, by simp only [putSel, Bool.false_eq_true, if_false], HB.out, ZB.out, fun _ => B0.out, fun h_ => absurd h_ (by decide), fun h_ => absurd h_ (by decide), fun h_ => absurd h_ (by decide), fun h_ => absurd h_ (by decide)⟩
  · skip
    clear B0 HB ZB
    refine steps_cons ?_ ?_
    · rintro b a w' ⟨v1, ha, Q_HB, Q_ZB, Q_B0, Q_B1, Q_B2, Q_B3, Q_RR⟩ hb_ hon hoff
      refine ⟨_, rfl, fun K hK => ?_⟩
      have e3 : a.tmps[3]? = some (.pointer (some ⟨g, 0, none⟩)) := by rw [ha]; exact (putSel_off rfl).trans rfl
      replace ha := Aside0.mk ha
      have HB := Aside0.mk Q_HB
      have ZB := Aside0.mk Q_ZB
      have B0 := Aside0.mk (Q_B0 (hoff 12 (by kernel_rfl)))
      refine value_ (w1 := w') (v := .pointer (some ⟨g, 0, none⟩)) (by rfl) rfl ?_ ?_
      · go_simp
        (try simp only [i64_w])
        try rfl
      refine hK.out _ _ ⟨v1, (by rw [ha.out]; exact putSel_upk 0 hb_ rfl rfl rfl), Q_HB, Q_ZB, Q_B0, fun h0_ _ => absurd ((hoff 12 (by kernel_rfl)).symm.trans h0_) (by decide), fun h0_ _ => absurd ((hoff 14 (by kernel_rfl)).symm.trans h0_) (by decide), fun h0_ => absurd ((hoff 16 (by kernel_rfl)).symm.trans h0_) (by decide), Q_RR⟩
    refine steps_cons ?_ ?_
    · rintro b a w' ⟨v1, ha, Q_HB, Q_ZB, Q_B0, Q_B1, Q_B2, Q_B3, Q_RR⟩ hb_ hon hoff
      refine ⟨_, rfl, fun K hK => ?_⟩
      have e28 : a.tmps[28]? = some (.pointer (some ⟨g, 0, none⟩)) := by rw [ha]; exact putSel_on (e := (0, 28, .pointer (some ⟨g, 0, none⟩))) 0 rfl rfl (hon 0 (by kernel_rfl)) rfl
      replace ha := Aside0.mk ha
      have HB := Aside0.mk Q_HB
      have ZB := Aside0.mk Q_ZB
      have B0 := Aside0.mk (Q_B0 (hoff 12 (by kernel_rfl)))
      have q0 : w'.cell? ⟨g, 0, none⟩ = some (.int .i64 L) := B0.out.cell 0
      refine value_ (w1 := w') (v := .int .i64 L) (by rfl) rfl ?_ ?_
      · go_simp
        (try simp only [i64_w])
        try rfl
      refine hK.out _ _ ⟨v1, (by rw [ha.out]; exact putSel_upk 1 hb_ rfl rfl rfl), Q_HB, Q_ZB, Q_B0, fun h0_ _ => absurd ((hoff 12 (by kernel_rfl)).symm.trans h0_) (by decide), fun h0_ _ => absurd ((hoff 14 (by kernel_rfl)).symm.trans h0_) (by decide), fun h0_ => absurd ((hoff 16 (by kernel_rfl)).symm.trans h0_) (by decide), Q_RR⟩
    refine steps_cons ?_ ?_
    · rintro b a w' ⟨v1, ha, Q_HB, Q_ZB, Q_B0, Q_B1, Q_B2, Q_B3, Q_RR⟩ hb_ hon hoff
      refine ⟨_, rfl, fun K hK => ?_⟩
      have e1 : a.tmps[1]? = some (.int .i64 dx) := by rw [ha]; exact (putSel_off rfl).trans rfl
      replace ha := Aside0.mk ha
      have HB := Aside0.mk Q_HB
      have ZB := Aside0.mk Q_ZB
      have B0 := Aside0.mk (Q_B0 (hoff 12 (by kernel_rfl)))
      refine value_ (w1 := w') (v := .int .i64 dx) (by rfl) rfl ?_ ?_
      · go_simp
        (try simp only [i64_w])
        try rfl
      refine hK.out _ _ ⟨v1, (by rw [ha.out]; exact putSel_upk 2 hb_ rfl rfl rfl), Q_HB, Q_ZB, Q_B0, fun h0_ _ => absurd ((hoff 12 (by kernel_rfl)).symm.trans h0_) (by decide), fun h0_ _ => absurd ((hoff 14 (by kernel_rfl)).symm.trans h0_) (by decide), fun h0_ => absurd ((hoff 16 (by kernel_rfl)).symm.trans h0_) (by decide), Q_RR⟩
    refine steps_cons ?_ ?_
    · rintro b a w' ⟨v1, ha, Q_HB, Q_ZB, Q_B0, Q_B1, Q_B2, Q_B3, Q_RR⟩ hb_ hon hoff
      refine ⟨_, rfl, fun K hK => ?_⟩
      have e29 : a.tmps[29]? = some (.int .i64 L) := by rw [ha]; exact putSel_on (e := (1, 29, .int .i64 L)) 1 rfl rfl (hon 1 (by kernel_rfl)) rfl
      have e30 : a.tmps[30]? = some (.int .i64 dx) := by rw [ha]; exact putSel_on (e := (2, 30, .int .i64 dx)) 2 rfl rfl (hon 2 (by kernel_rfl)) rfl
      replace ha := Aside0.mk ha
      have HB := Aside0.mk Q_HB
      have ZB := Aside0.mk Q_ZB
      have B0 := Aside0.mk (Q_B0 (hoff 12 (by kernel_rfl)))
      have yl := YL.out
      refine value_ (w1 := w') (v := .int .i64 (L + dx)) (by rfl) rfl ?_ ?_
      · go_simp
        (try simp only [i64_w])
        try rfl
      refine hK.out _ _ ⟨v1, (by rw [ha.out]; exact putSel_upk 3 hb_ rfl rfl rfl), Q_HB, Q_ZB, Q_B0, fun h0_ _ => absurd ((hoff 12 (by kernel_rfl)).symm.trans h0_) (by decide), fun h0_ _ => absurd ((hoff 14 (by kernel_rfl)).symm.trans h0_) (by decide), fun h0_ => absurd ((hoff 16 (by kernel_rfl)).symm.trans h0_) (by decide), Q_RR⟩
    refine steps_cons ?_ ?_
    · rintro b a w' ⟨v1, ha, Q_HB, Q_ZB, Q_B0, Q_B1, Q_B2, Q_B3, Q_RR⟩ hb_ hon hoff
      refine ⟨_, rfl, fun K hK => ?_⟩
      have e3 : a.tmps[3]? = some (.pointer (some ⟨g, 0, none⟩)) := by rw [ha]; exact (putSel_off rfl).trans rfl
      replace ha := Aside0.mk ha
      have HB := Aside0.mk Q_HB
      have ZB := Aside0.mk Q_ZB
      have B0 := Aside0.mk (Q_B0 (hoff 12 (by kernel_rfl)))
      refine value_ (w1 := w') (v := .pointer (some ⟨g, 1, none⟩)) (by rfl) rfl ?_ ?_
      · go_simp
        (try simp only [i64_w])
        try rfl
      refine hK.out _ _ ⟨v1, (by rw [ha.out]; exact putSel_upk 4 hb_ rfl rfl rfl), Q_HB, Q_ZB, Q_B0, fun h0_ _ => absurd ((hoff 12 (by kernel_rfl)).symm.trans h0_) (by decide), fun h0_ _ => absurd ((hoff 14 (by kernel_rfl)).symm.trans h0_) (by decide), fun h0_ => absurd ((hoff 16 (by kernel_rfl)).symm.trans h0_) (by decide), Q_RR⟩
    refine steps_cons ?_ ?_
    · rintro b a w' ⟨v1, ha, Q_HB, Q_ZB, Q_B0, Q_B1, Q_B2, Q_B3, Q_RR⟩ hb_ hon hoff
      refine ⟨_, rfl, fun K hK => ?_⟩
      have e32 : a.tmps[32]? = some (.pointer (some ⟨g, 1, none⟩)) := by rw [ha]; exact putSel_on (e := (4, 32, .pointer (some ⟨g, 1, none⟩))) 4 rfl rfl (hon 4 (by kernel_rfl)) rfl
      replace ha := Aside0.mk ha
      have HB := Aside0.mk Q_HB
      have ZB := Aside0.mk Q_ZB
      have B0 := Aside0.mk (Q_B0 (hoff 12 (by kernel_rfl)))
      have q1 : w'.cell? ⟨g, 1, none⟩ = some (.int .i64 T) := B0.out.cell 1
      refine value_ (w1 := w') (v := .int .i64 T) (by rfl) rfl ?_ ?_
      · go_simp
        (try simp only [i64_w])
        try rfl
      refine hK.out _ _ ⟨v1, (by rw [ha.out]; exact putSel_upk 5 hb_ rfl rfl rfl), Q_HB, Q_ZB, Q_B0, fun h0_ _ => absurd ((hoff 12 (by kernel_rfl)).symm.trans h0_) (by decide), fun h0_ _ => absurd ((hoff 14 (by kernel_rfl)).symm.trans h0_) (by decide), fun h0_ => absurd ((hoff 16 (by kernel_rfl)).symm.trans h0_) (by decide), Q_RR⟩
    refine steps_cons ?_ ?_
    · rintro b a w' ⟨v1, ha, Q_HB, Q_ZB, Q_B0, Q_B1, Q_B2, Q_B3, Q_RR⟩ hb_ hon hoff
      refine ⟨_, rfl, fun K hK => ?_⟩
      have e2 : a.tmps[2]? = some (.int .i64 dy) := by rw [ha]; exact (putSel_off rfl).trans rfl
      replace ha := Aside0.mk ha
      have HB := Aside0.mk Q_HB
      have ZB := Aside0.mk Q_ZB
      refine value_ (w1 := w') (v := .int .i64 dy) (by rfl) rfl ?_ ?_
      · go_simp
        (try simp only [i64_w])
        try rfl
      refine hK.out _ _ ⟨v1, (by rw [ha.out]; exact putSel_upk 6 hb_ rfl rfl rfl), Q_HB, Q_ZB, Q_B0, Q_B1, fun h0_ _ => absurd ((hoff 14 (by kernel_rfl)).symm.trans h0_) (by decide), fun h0_ => absurd ((hoff 16 (by kernel_rfl)).symm.trans h0_) (by decide), Q_RR⟩
    refine steps_cons ?_ ?_
    · rintro b a w' ⟨v1, ha, Q_HB, Q_ZB, Q_B0, Q_B1, Q_B2, Q_B3, Q_RR⟩ hb_ hon hoff
      refine ⟨_, rfl, fun K hK => ?_⟩
      have e33 : a.tmps[33]? = some (.int .i64 T) := by rw [ha]; exact putSel_on (e := (5, 33, .int .i64 T)) 5 rfl rfl (hon 5 (by kernel_rfl)) rfl
      have e34 : a.tmps[34]? = some (.int .i64 dy) := by rw [ha]; exact putSel_on (e := (6, 34, .int .i64 dy)) 6 rfl rfl (hon 6 (by kernel_rfl)) rfl
      replace ha := Aside0.mk ha
      have HB := Aside0.mk Q_HB
      have ZB := Aside0.mk Q_ZB
      have yt := YT.out
      refine value_ (w1 := w') (v := .int .i64 (T + dy)) (by rfl) rfl ?_ ?_
      · go_simp
        (try simp only [i64_w])
        try rfl
      refine hK.out _ _ ⟨v1, (by rw [ha.out]; exact putSel_upk 7 hb_ rfl rfl rfl), Q_HB, Q_ZB, Q_B0, Q_B1, fun h0_ _ => absurd ((hoff 14 (by kernel_rfl)).symm.trans h0_) (by decide), fun h0_ => absurd ((hoff 16 (by kernel_rfl)).symm.trans h0_) (by decide), Q_RR⟩
    refine steps_cons ?_ ?_
    · rintro b a w' ⟨v1, ha, Q_HB, Q_ZB, Q_B0, Q_B1, Q_B2, Q_B3, Q_RR⟩ hb_ hon hoff
      refine ⟨_, rfl, fun K hK => ?_⟩
      have e3 : a.tmps[3]? = some (.pointer (some ⟨g, 0, none⟩)) := by rw [ha]; exact (putSel_off rfl).trans rfl
      replace ha := Aside0.mk ha
      have HB := Aside0.mk Q_HB
      have ZB := Aside0.mk Q_ZB
      have B0 := Aside0.mk (Q_B0 (hoff 12 (by kernel_rfl)))
      refine value_ (w1 := w') (v := .pointer (some ⟨g, 4, none⟩)) (by rfl) rfl ?_ ?_
      · go_simp
        (try simp only [i64_w])
        try rfl
      refine hK.out _ _ ⟨v1, (by rw [ha.out]; exact putSel_upk 8 hb_ rfl rfl rfl), Q_HB, Q_ZB, Q_B0, fun h0_ _ => absurd ((hoff 12 (by kernel_rfl)).symm.trans h0_) (by decide), fun h0_ _ => absurd ((hoff 14 (by kernel_rfl)).symm.trans h0_) (by decide), fun h0_ => absurd ((hoff 16 (by kernel_rfl)).symm.trans h0_) (by decide), fun h0_ => absurd ((hoff 10 (by kernel_rfl)).symm.trans h0_) (by decide)⟩
    refine steps_cons ?_ ?_
    · rintro b a w' ⟨v1, ha, Q_HB, Q_ZB, Q_B0, Q_B1, Q_B2, Q_B3, Q_RR⟩ hb_ hon hoff
      refine ⟨_, rfl, fun K hK => ?_⟩
      have e36 : a.tmps[36]? = some (.pointer (some ⟨g, 4, none⟩)) := by rw [ha]; exact putSel_on (e := (8, 36, .pointer (some ⟨g, 4, none⟩))) 8 rfl rfl (hon 8 (by kernel_rfl)) rfl
      replace ha := Aside0.mk ha
      have HB := Aside0.mk Q_HB
      have ZB := Aside0.mk Q_ZB
      have B0 := Aside0.mk (Q_B0 (hoff 12 (by kernel_rfl)))
      have q4 : w'.cell? ⟨g, 4, none⟩ = some (.slice A l.length c) := B0.out.cell 4
      refine value_ (w1 := w') (v := .slice A l.length c) (by rfl) rfl ?_ ?_
      · go_simp
        (try simp only [i64_w])
        try rfl
      refine hK.out _ _ ⟨v1, (by rw [ha.out]; exact putSel_upk 9 hb_ rfl rfl rfl), Q_HB, Q_ZB, Q_B0, fun h0_ _ => absurd ((hoff 12 (by kernel_rfl)).symm.trans h0_) (by decide), fun h0_ _ => absurd ((hoff 14 (by kernel_rfl)).symm.trans h0_) (by decide), fun h0_ => absurd ((hoff 16 (by kernel_rfl)).symm.trans h0_) (by decide), fun h0_ => absurd ((hoff 10 (by kernel_rfl)).symm.trans h0_) (by decide)⟩
    refine steps_cons ?_ ?_
    · rintro b a w' ⟨v1, ha, Q_HB, Q_ZB, Q_B0, Q_B1, Q_B2, Q_B3, Q_RR⟩ hb_ hon hoff
      refine ⟨_, rfl, fun K hK => ?_⟩
      have e37 : a.tmps[37]? = some (.slice A l.length c) := by rw [ha]; exact putSel_on (e := (9, 37, .slice A l.length c)) 9 rfl rfl (hon 9 (by kernel_rfl)) rfl
      replace ha := Aside0.mk ha
      have HB := Aside0.mk Q_HB
      have ZB := Aside0.mk Q_ZB
      have B0 := Aside0.mk (Q_B0 (hoff 12 (by kernel_rfl)))
      refine call_ 46 #[.slice A l.length c] (by rfl) rfl ?_ ?_
      · go_simp
      refine (Hy.scan_Clone.calls A c l l w' (Kd.C_below HR.out HB.out) HC.out HN.out).mono ?_
      rintro e w2 ⟨vv, rfl, hR, hb⟩
      refine ⟨_, rfl, ?_⟩
      refine hK.out _ _ ⟨vv, (by rw [ha.out]; exact putSel_upk 10 hb_ rfl rfl rfl), bthen' HB.out hb, ZB.out.below hb, fun _ => B0.out.below hb, fun h0_ _ => absurd ((hoff 12 (by kernel_rfl)).symm.trans h0_) (by decide), fun h0_ _ => absurd ((hoff 14 (by kernel_rfl)).symm.trans h0_) (by decide), fun h0_ => absurd ((hoff 16 (by kernel_rfl)).symm.trans h0_) (by decide), fun _ => Kd.R_lower hR HB.out.size⟩
    refine steps_cons ?_ ?_
    · rintro b a w' ⟨v1, ha, Q_HB, Q_ZB, Q_B0, Q_B1, Q_B2, Q_B3, Q_RR⟩ hb_ hon hoff
      refine ⟨_, rfl, fun K hK => ?_⟩
      have e3 : a.tmps[3]? = some (.pointer (some ⟨g, 0, none⟩)) := by rw [ha]; exact (putSel_off rfl).trans rfl
      replace ha := Aside0.mk ha
      have HB := Aside0.mk Q_HB
      have ZB := Aside0.mk Q_ZB
      have B0 := Aside0.mk (Q_B0 (hoff 12 (by kernel_rfl)))
      refine value_ (w1 := w') (v := .pointer (some ⟨g, 0, none⟩)) (by rfl) rfl ?_ ?_
      · go_simp
        (try simp only [i64_w])
        try rfl
      refine hK.out _ _ ⟨v1, (by rw [ha.out]; exact putSel_upk 11 hb_ rfl rfl rfl), Q_HB, Q_ZB, Q_B0, fun h0_ _ => absurd ((hoff 12 (by kernel_rfl)).symm.trans h0_) (by decide), fun h0_ _ => absurd ((hoff 14 (by kernel_rfl)).symm.trans h0_) (by decide), fun h0_ => absurd ((hoff 16 (by kernel_rfl)).symm.trans h0_) (by decide), Q_RR⟩
    refine steps_cons ?_ ?_
    · rintro b a w' ⟨v1, ha, Q_HB, Q_ZB, Q_B0, Q_B1, Q_B2, Q_B3, Q_RR⟩ hb_ hon hoff
      refine ⟨_, rfl, fun K hK => ?_⟩
      have e39 : a.tmps[39]? = some (.pointer (some ⟨g, 0, none⟩)) := by rw [ha]; exact putSel_on (e := (11, 39, .pointer (some ⟨g, 0, none⟩))) 11 rfl rfl (hon 11 (by kernel_rfl)) rfl
      have e31 : a.tmps[31]? = some (.int .i64 (L + dx)) := by rw [ha]; exact putSel_on (e := (3, 31, .int .i64 (L + dx))) 3 rfl rfl (hon 3 (by kernel_rfl)) rfl
      replace ha := Aside0.mk ha
      have HB := Aside0.mk Q_HB
      have ZB := Aside0.mk Q_ZB
      have B0 := Aside0.mk (Q_B0 hb_)
      have RR := Aside0.mk (Q_RR (hon 10 (by kernel_rfl)))
      have q0 : w'.cell? ⟨g, 0, none⟩ = some (.int .i64 L) := B0.out.cell 0
      have z0 := B0.out.frozen 0
      refine skip_ (w1 := w'.setCell ⟨g, 0, none⟩ (.int .i64 (L + dx))) (by rfl) rfl ?_ ?_
      · go_simp
      refine hK.out _ _ ⟨v1, (by rw [ha.out]; exact putSel_none (v := undef) rfl), bset HB.out GE.out 0 _, ZB.out.far NE.out 0 _, fun h0_ => absurd ((up_self b 12).symm.trans h0_) (by decide), fun _ _ => B0.out.put 0 _ rfl, fun h0_ _ => absurd ((hoff 14 (by kernel_rfl)).symm.trans h0_) (by decide), fun h0_ => absurd ((hoff 16 (by kernel_rfl)).symm.trans h0_) (by decide), fun _ => Kd.R_set RR.out B0.out (by decide) 0 _⟩
    refine steps_cons ?_ ?_
    · rintro b a w' ⟨v1, ha, Q_HB, Q_ZB, Q_B0, Q_B1, Q_B2, Q_B3, Q_RR⟩ hb_ hon hoff
      refine ⟨_, rfl, fun K hK => ?_⟩
      have e3 : a.tmps[3]? = some (.pointer (some ⟨g, 0, none⟩)) := by rw [ha]; exact (putSel_off rfl).trans rfl
      replace ha := Aside0.mk ha
      have HB := Aside0.mk Q_HB
      have ZB := Aside0.mk Q_ZB
      have B1 := Aside0.mk (Q_B1 (hon 12 (by kernel_rfl)) (hoff 14 (by kernel_rfl)))
      have RR := Aside0.mk (Q_RR (hon 10 (by kernel_rfl)))
      refine value_ (w1 := w') (v := .pointer (some ⟨g, 1, none⟩)) (by rfl) rfl ?_ ?_
      · go_simp
        (try simp only [i64_w])
        try rfl
      refine hK.out _ _ ⟨v1, (by rw [ha.out]; exact putSel_upk 12 hb_ rfl rfl rfl), Q_HB, Q_ZB, fun h0_ => absurd ((hon 12 (by kernel_rfl)).symm.trans h0_) (by decide), Q_B1, fun h0_ _ => absurd ((hoff 14 (by kernel_rfl)).symm.trans h0_) (by decide), fun h0_ => absurd ((hoff 16 (by kernel_rfl)).symm.trans h0_) (by decide), Q_RR⟩
    refine steps_cons ?_ ?_
    · rintro b a w' ⟨v1, ha, Q_HB, Q_ZB, Q_B0, Q_B1, Q_B2, Q_B3, Q_RR⟩ hb_ hon hoff
      refine ⟨_, rfl, fun K hK => ?_⟩
      have e40 : a.tmps[40]? = some (.pointer (some ⟨g, 1, none⟩)) := by rw [ha]; exact putSel_on (e := (13, 40, .pointer (some ⟨g, 1, none⟩))) 12 rfl rfl (hon 13 (by kernel_rfl)) rfl
      have e35 : a.tmps[35]? = some (.int .i64 (T + dy)) := by rw [ha]; exact putSel_on (e := (7, 35, .int .i64 (T + dy))) 7 rfl rfl (hon 7 (by kernel_rfl)) rfl
      replace ha := Aside0.mk ha
      have HB := Aside0.mk Q_HB
      have ZB := Aside0.mk Q_ZB
      have B1 := Aside0.mk (Q_B1 (hon 12 (by kernel_rfl)) hb_)
      have RR := Aside0.mk (Q_RR (hon 10 (by kernel_rfl)))
      have q1 : w'.cell? ⟨g, 1, none⟩ = some (.int .i64 T) := B1.out.cell 1
      have z1 := B1.out.frozen 1
      refine skip_ (w1 := w'.setCell ⟨g, 1, none⟩ (.int .i64 (T + dy))) (by rfl) rfl ?_ ?_
      · go_simp
      refine hK.out _ _ ⟨v1, (by rw [ha.out]; exact putSel_none (v := undef) rfl), bset HB.out GE.out 1 _, ZB.out.far NE.out 1 _, fun h0_ => absurd ((hon 12 (by kernel_rfl)).symm.trans h0_) (by decide), fun _ h1_ => absurd ((up_self b 14).symm.trans h1_) (by decide), fun _ _ => B1.out.put 1 _ rfl, fun h0_ => absurd ((hoff 16 (by kernel_rfl)).symm.trans h0_) (by decide), fun _ => Kd.R_set RR.out B1.out (by decide) 1 _⟩
    refine steps_cons ?_ ?_
    · rintro b a w' ⟨v1, ha, Q_HB, Q_ZB, Q_B0, Q_B1, Q_B2, Q_B3, Q_RR⟩ hb_ hon hoff
      refine ⟨_, rfl, fun K hK => ?_⟩
      have e3 : a.tmps[3]? = some (.pointer (some ⟨g, 0, none⟩)) := by rw [ha]; exact (putSel_off rfl).trans rfl
      replace ha := Aside0.mk ha
      have HB := Aside0.mk Q_HB
      have ZB := Aside0.mk Q_ZB
      have B2 := Aside0.mk (Q_B2 (hon 14 (by kernel_rfl)) (hoff 16 (by kernel_rfl)))
      have RR := Aside0.mk (Q_RR (hon 10 (by kernel_rfl)))
      refine value_ (w1 := w') (v := .pointer (some ⟨g, 4, none⟩)) (by rfl) rfl ?_ ?_
      · go_simp
        (try simp only [i64_w])
        try rfl
      refine hK.out _ _ ⟨v1, (by rw [ha.out]; exact putSel_upk 13 hb_ rfl rfl rfl), Q_HB, Q_ZB, fun h0_ => absurd ((hon 12 (by kernel_rfl)).symm.trans h0_) (by decide), fun _ h1_ => absurd ((hon 14 (by kernel_rfl)).symm.trans h1_) (by decide), Q_B2, fun h0_ => absurd ((hoff 16 (by kernel_rfl)).symm.trans h0_) (by decide), Q_RR⟩
    refine steps_cons ?_ ?_
    · rintro b a w' ⟨v1, ha, Q_HB, Q_ZB, Q_B0, Q_B1, Q_B2, Q_B3, Q_RR⟩ hb_ hon hoff
      refine ⟨_, rfl, fun K hK => ?_⟩
      have e41 : a.tmps[41]? = some (.pointer (some ⟨g, 4, none⟩)) := by rw [ha]; exact putSel_on (e := (15, 41, .pointer (some ⟨g, 4, none⟩))) 13 rfl rfl (hon 15 (by kernel_rfl)) rfl
      have e38 : a.tmps[38]? = some (v1) := by rw [ha]; exact putSel_on (e := (10, 38, v1)) 10 rfl rfl (hon 10 (by kernel_rfl)) rfl
      replace ha := Aside0.mk ha
      have HB := Aside0.mk Q_HB
      have ZB := Aside0.mk Q_ZB
      have B2 := Aside0.mk (Q_B2 (hon 14 (by kernel_rfl)) hb_)
      have RR := Aside0.mk (Q_RR (hon 10 (by kernel_rfl)))
      obtain ⟨A2, c2, hv2⟩ := Kd.R_slice RR.out
      have ho : v1.oneCell' = true := by rw [hv2]; rfl
      have q4 : w'.cell? ⟨g, 4, none⟩ = some (.slice A l.length c) := B2.out.cell 4
      have z4 := B2.out.frozen 4
      refine skip_ (w1 := w'.setCell ⟨g, 4, none⟩ (v1)) (by rfl) rfl ?_ ?_
      · go_simp
      refine hK.out _ _ ⟨v1, (by rw [ha.out]; exact putSel_none (v := undef) rfl), bset HB.out GE.out 4 _, ZB.out.far NE.out 4 _, fun h0_ => absurd ((hon 12 (by kernel_rfl)).symm.trans h0_) (by decide), fun _ h1_ => absurd ((hon 14 (by kernel_rfl)).symm.trans h1_) (by decide), fun _ h1_ => absurd ((up_self b 16).symm.trans h1_) (by decide), fun _ => B2.out.put 4 _ rfl, fun _ => Kd.R_set RR.out B2.out (by decide) 4 _⟩
    exact steps_nil
  · rintro b a w' hall ⟨v1, ha, Q_HB, Q_ZB, Q_B0, Q_B1, Q_B2, Q_B3, Q_RR⟩
    clear B0 HB ZB
    have hb0_ := hall 0 (by kernel_rfl)
    have hb1_ := hall 1 (by kernel_rfl)
    have hb2_ := hall 2 (by kernel_rfl)
    have hb3_ := hall 3 (by kernel_rfl)
    have hb4_ := hall 4 (by kernel_rfl)
    have hb5_ := hall 5 (by kernel_rfl)
    have hb6_ := hall 6 (by kernel_rfl)
    have hb7_ := hall 7 (by kernel_rfl)
    have hb8_ := hall 8 (by kernel_rfl)
    have hb9_ := hall 9 (by kernel_rfl)
    have hb10_ := hall 10 (by kernel_rfl)
    have hb11_ := hall 11 (by kernel_rfl)
    have hb12_ := hall 12 (by kernel_rfl)
    have hb13_ := hall 13 (by kernel_rfl)
    have hb14_ := hall 14 (by kernel_rfl)
    have hb15_ := hall 15 (by kernel_rfl)
    have hb16_ := hall 16 (by kernel_rfl)
    subst ha
    simp only [putSel, hb0_, hb1_, hb2_, hb3_, hb4_, hb5_, hb6_, hb7_, hb8_, hb9_, hb10_, hb11_, hb12_, hb13_, hb14_, hb15_, hb16_, if_true, Act.put, List.setIfInBounds_toArray, List.set_cons_zero, List.set_cons_succ]
    have HB := Aside0.mk Q_HB
    clear Q_HB
    have ZB := Aside0.mk Q_ZB
    clear Q_ZB
    clear Q_B0
    clear Q_B1
    clear Q_B2
    have B3 := Aside0.mk (Q_B3 hb16_)
    clear Q_B3
    have RR := Aside0.mk (Q_RR hb10_)
    clear Q_RR
    clear hall hb0_ hb1_ hb2_ hb3_ hb4_ hb5_ hb6_ hb7_ hb8_ hb9_ hb10_ hb11_ hb12_ hb13_ hb14_ hb15_ hb16_
    obtain ⟨A1, c1, rfl⟩ := Kd.R_slice RR.out
    have HRv := Lib.hid (Kd.R_reads' RR.out).2
    have RR := Lib.hid RR.out
    have HB := Lib.hid HB.out
    have ZB := Lib.hid ZB.out
    have B3 := Lib.hid B3.out
    have q0 := B3.out.cell 0
    have q1 := B3.out.cell 1
    have q2 := B3.out.cell 2
    have q3 := B3.out.cell 3
    have q4 := B3.out.cell 4
    simp only [List.getElem?_toArray, List.getElem?_cons_zero, List.getElem?_cons_succ] at q0 q1 q2 q3 q4
    go_wp2_with fail
    refine (Hy.scan_Right.calls (L + dx) (T + dy) W H A1 c1 l true _ HRv.out.2 HRv.out.1 HF2.out).mono ?_
    rintro e w3 ⟨rfl, hb⟩
    have HB3 := Lib.hid (bthen' HB.out hb)
    have B4 := Lib.hid (B3.out.below hb)
    have Z4 := Lib.hid (ZB.out.below hb)
    have R4 := Lib.hid (Kd.R_below RR.out hb)
    clear hb q0 q1 q2 q3 q4 B3 HB ZB RR HRv
    have q0 := B4.out.cell 0
    have q1 := B4.out.cell 1
    have q2 := B4.out.cell 2
    have q3 := B4.out.cell 3
    have q4 := B4.out.cell 4
    simp only [List.getElem?_toArray, List.getElem?_cons_zero, List.getElem?_cons_succ] at q0 q1 q2 q3 q4
    have f0 := Z4.out.cell 0
    have f1 := Z4.out.cell 1
    have f2 := Z4.out.cell 2
    have f3 := Z4.out.cell 3
    have f4 := Z4.out.cell 4
    simp only [List.getElem?_toArray, List.getElem?_cons_zero, List.getElem?_cons_succ] at f0 f1 f2 f3 f4
    have z0 := Z4.out.frozen 0
    have z1 := Z4.out.frozen 1
    have z2 := Z4.out.frozen 2
    have z3 := Z4.out.frozen 3
    have z4 := Z4.out.frozen 4
    go_wp2_with fail
    have BF := Lib.hid (((((Z4.out.put 0 (.int .i64 (L + dx)) rfl).put 1 (.int .i64 (T + dy)) rfl).put 2 (.int .i64 W) rfl).put 3 (.int .i64 H) rfl).put 4 (.slice A1 l.length c1) rfl)
    have HBF := Lib.hid (bset (bset (bset (bset (bset HB3.out GE6.out 0 (.int .i64 (L + dx))) GE6.out 1 (.int .i64 (T + dy))) GE6.out 2 (.int .i64 W)) GE6.out 3 (.int .i64 H)) GE6.out 4 (.slice A1 l.length c1))
    have RF := Lib.hid (R_put5 R4.out Z4.out (by decide) (.int .i64 (L + dx)) (.int .i64 (T + dy)) (.int .i64 W) (.int .i64 H) (.slice A1 l.length c1))
    refine bodyPost_ret (res_c (g := g6) rfl _ _ _ _ _ rfl BF.out rfl hu36 (by kernel_rfl)) rfl ⟨_, rfl, RF.out, HBF.out⟩
end Go.Proofs.YtleljodcdbhifaaDoor
/- The closures of scan.pieces, called by themselves. -/
set_option linter.unusedVariables false
set_option linter.unusedSimpArgs false
namespace Go.Proofs.YtleljodcdbhifaaDoor
open Go.RowKit Go.Proofs.YtleljodcdbhifaaDoorW.PrintWords Go.Proofs.YtleljodcdbhifaaDoorW.PrintLast Go.Proofs.YtleljodcdbhifaaDoorW.PrintMore Hy
/-- the cells of an element of a row of points -/
theorem pt_cells {w : World} {A : Option Addr} {l : List S30} (h : Kd.C k30 w A l.length l) (k : Nat) (hk : k < l.length) :
    ∃ ad, A = some ad ∧ w.cell? (ad.add (k * 3)) = some (.int .i64 (l.getD k z30).f0) ∧ w.cell? ⟨(ad.add (k * 3)).block, (ad.add (k * 3)).off + 1, none⟩ = some (.int .i64 (l.getD k z30).f1) ∧ w.cell? ⟨(ad.add (k * 3)).block, (ad.add (k * 3)).off + 2, none⟩ = some (.bool (l.getD k z30).f2) := by
  obtain ⟨ad, cs, hA, hl, hK, hcell⟩ := Kd.C_get h z30 (k : Int) (by omega) (by omega)
  rw [Int.toNat_natCast] at hK hcell
  have hcs : cs = [.int .i64 (l.getD k z30).f0, .int .i64 (l.getD k z30).f1, .bool (l.getD k z30).f2] := by
    obtain ⟨c0, c1, rfl, h0, c2, c3, rfl, h2, h3⟩ := hK
    have e0 : c0 = _ := h0
    have e2 : c2 = _ := h2
    have e3 : c3 = _ := h3
    rw [e0, e2, e3]; rfl
  subst hcs
  refine ⟨ad, hA, ?_, ?_, ?_⟩
  · have h := hcell 0 _ rfl
    simpa [k30, Kd.iso, Kd.pair, Kd.int, Kd.bool, Kd.scalar] using h
  · rw [show (⟨(ad.add (k * 3)).block, (ad.add (k * 3)).off + 1, none⟩ : Addr) = ad.add (k * 3 + 1) from (add_field ad (k * 3) 1 (by omega)).symm]
    have h := hcell 1 _ rfl
    simpa [k30, Kd.iso, Kd.pair, Kd.int, Kd.bool, Kd.scalar] using h
  · rw [show (⟨(ad.add (k * 3)).block, (ad.add (k * 3)).off + 2, none⟩ : Addr) = ad.add (k * 3 + 2) from (add_field ad (k * 3) 2 (by omega)).symm]
    have h := hcell 2 _ rfl
    simpa [k30, Kd.iso, Kd.pair, Kd.int, Kd.bool, Kd.scalar] using h
def pv (p : S30) : Value := .agg #[.int .i64 p.f0, .int .i64 p.f1, .bool p.f2]
def ptAt (c : List S30) (i : Nat) : S30 := c.getD (i % c.length) z30
set_option maxRecDepth 100000 in
set_option maxHeartbeats 1000000 in
theorem at_any (j : Int) (l : List S30) (A : Option Addr) (c g : Nat) (w : World) (hC : Kd.C k30 w A l.length l) (hc : w.cell? ⟨g, 0, none⟩ = some (.slice A l.length c)) (h0 : 0 < l.length) (hj : 0 ≤ j) (hi : j < 9223372036854775807) :
    Calls Tryd.prog 57 #[.int .i64 j, .pointer (some ⟨g, 0, none⟩)] w fun e w' => e = .returned (pv (ptAt l j.toNat)) ∧ Below w.heap.size w w' := by
  obtain ⟨i, rfl⟩ : ∃ i : Nat, j = i := ⟨j.toNat, by omega⟩
  rw [Int.toNat_natCast]
  unfold ptAt
  have hm : l.length ≤ 9223372036854775807 := hC.2.1
  have hlt : i % l.length < l.length := Nat.mod_lt _ h0
  obtain ⟨ad, rfl, g0, g1, g2⟩ := pt_cells hC (i % l.length) hlt
  unfold pv
  generalize hx : l.getD (i % l.length) z30 = x at *
  obtain ⟨x0, x1, x2⟩ := x
  dsimp only at g0 g1 g2 ⊢
  clear hx hC
  generalize hL : l.length = L at *
  clear hL
  have hu := Tryd.underlying30
  have hgw := World.block_lt_of_cell? w _ hc
  have e0 : ((L : Int) == 0) = false := by simp; omega
  have em : ((i : Int).tmod (L : Int)) = ((i % L : Nat) : Int) := by rw [Int.tmod_eq_emod_of_nonneg (by omega)]; omega
  have em2 : ((i : Int) % (L : Int)) = ((i % L : Nat) : Int) := by omega
  generalize hr : i % L = r at *
  have b1 : (0 : Int) ≤ (r : Int) := by omega
  have b2 : (r : Int) < (L : Int) := by omega
  clear hr
  go_enter Tryd.func57, Tryd.ntmps57
  go_wp2_with fail
  obtain ⟨w1, g3, hw, hg3, B, HB, hne⟩ := new_box w #[.int .i64 0, .int .i64 0, .bool false] 30
  rw [hw, hg3]
  have k0 := pw_cell_below HB.out g0
  have k1 := pw_cell_below HB.out g1
  have k2 := pw_cell_below HB.out g2
  have kc := pw_cell_below HB.out hc
  have f0 := B.out.cell 0
  have f1 := B.out.cell 1
  have f2 := B.out.cell 2
  simp only [List.getElem?_toArray, List.getElem?_cons_zero, List.getElem?_cons_succ] at f0 f1 f2
  have z0 := B.out.frozen 0
  have z1 := B.out.frozen 1
  have z2 := B.out.frozen 2
  have HW := Lib.hid hw
  have HG := Lib.hid hg3
  clear g0 g1 g2 hc hw hg3
  go_region
  have BB := Lib.hid ((((B.out.put 0 (.int .i64 x0) rfl).put 1 (.int .i64 x1) rfl).put 2 (.bool x2) rfl).drew)
  have HB2 := Lib.hid (bdrew (bset (bset (bset HB.out (Nat.le_of_eq HG.out) 0 (.int .i64 x0)) (Nat.le_of_eq HG.out) 1 (.int .i64 x1)) (Nat.le_of_eq HG.out) 2 (.bool x2)))
  generalize World.drew _ = w9 at *
  go_wp2_with fail
  refine bodyPost_ret (res_c (g := g3) rfl _ _ _ _ _ rfl BB.out rfl hu (by kernel_rfl)) rfl ⟨rfl, HB2.out⟩
/-- the sums of the coordinates of two points -/
theorem mid_any (a b : S30) (w : World) (ha0 : -4096 ≤ a.f0 ∧ a.f0 ≤ 4096) (ha1 : -4096 ≤ a.f1 ∧ a.f1 ≤ 4096) (hb0 : -4096 ≤ b.f0 ∧ b.f0 ≤ 4096) (hb1 : -4096 ≤ b.f1 ∧ b.f1 ≤ 4096) :
    Calls Tryd.prog 58 #[pv a, pv b] w fun e w' => e = .returned (.tuple #[.int .i64 (a.f0 + b.f0), .int .i64 (a.f1 + b.f1)]) ∧ Below w.heap.size w w' := by
  obtain ⟨a0, a1, a2⟩ := a
  obtain ⟨b0, b1, b2⟩ := b
  unfold pv
  dsimp only at ha0 ha1 hb0 hb1 ⊢
  have hu := Tryd.underlying30
  go_enter Tryd.func58, Tryd.ntmps58
  go_wp2_with fail
  go_quiet (fail)
  go_wp2
  go_ret2
  exact ⟨rfl, bdrewN (balloc (balloc (Below.refl _ _) _) _) _⟩
theorem pieces_any (A : Option Addr) (n c : Nat) (w : World) :
    Calls Tryd.prog 49 #[.slice A n c] w fun e w' => e = .returned (.func (.func 56) #[] #[.pointer (some ⟨w.heap.size, 0, none⟩)]) ∧ w' = w.alloc (.cells #[.slice A n c] 28) := by
  go_enter Tryd.func49, Tryd.ntmps49
  go_wp2
  go_ret
  exact ⟨rfl, rfl⟩
end Go.Proofs.YtleljodcdbhifaaDoor
/- The iterator over the pieces of a contour. -/
set_option linter.unusedVariables false
set_option linter.unusedSimpArgs false
namespace Go.Proofs.YtleljodcdbhifaaDoor
open Go.RowKit Go.Shelf Go.Proofs.YtleljodcdbhifaaDoorW.PrintWords Go.Proofs.YtleljodcdbhifaaDoorW.PrintLast Go.Proofs.YtleljodcdbhifaaDoorW.PrintMore Hy
attribute [local go_sem] Oper.semAt_some
def near12 (n : Int) : Prop := -4096 ≤ n ∧ n ≤ 4096
instance : DecidablePred near12 := fun n => inferInstanceAs (Decidable (_ ∧ _))
def nearP (p : S30) : Prop := near12 p.f0 ∧ near12 p.f1
instance : DecidablePred nearP := fun n => inferInstanceAs (Decidable (_ ∧ _))
/-- the piece of three points in a row -/
def pieceOf (b p n : S30) : List S84 :=
  if p.f2 then (if n.f2 then [⟨2 * p.f0, 2 * p.f1, 0, 0, 2 * n.f0, 2 * n.f1, false⟩] else [])
  else [⟨if b.f2 then 2 * b.f0 else b.f0 + p.f0, if b.f2 then 2 * b.f1 else b.f1 + p.f1, 2 * p.f0, 2 * p.f1, if n.f2 then 2 * n.f0 else p.f0 + n.f0, if n.f2 then 2 * n.f1 else p.f1 + n.f1, true⟩]
def pieceAt (c : List S30) (k : Nat) : List S84 := pieceOf (ptAt c (k + c.length - 1)) (c.getD k z30) (ptAt c (k + 1))
def pcs (c : List S30) (k : Nat) : List S84 := (List.range k).flatMap (pieceAt c)
theorem pcs_succ (c : List S30) (k : Nat) : pcs c (k + 1) = pcs c k ++ pieceAt c k := by
  unfold pcs; rw [List.range_succ, List.flatMap_append]; simp
theorem pieceOf_le (b p n : S30) : (pieceOf b p n).length ≤ 1 := by
  unfold pieceOf; (repeat' split) <;> simp
theorem pcs_le (c : List S30) (k : Nat) : (pcs c k).length ≤ k := by
  induction k with
  | zero => exact Nat.le_refl _
  | succ k ih =>
    have h := pieceOf_le (ptAt c (k + c.length - 1)) (c.getD k z30) (ptAt c (k + 1))
    rw [pcs_succ, List.length_append]
    unfold pieceAt
    omega
def sv (s : S84) : Value := .agg #[.int .i64 s.f0, .int .i64 s.f1, .int .i64 s.f2, .int .i64 s.f3, .int .i64 s.f4, .int .i64 s.f5, .bool s.f6]
theorem getD_near {c : List S30} (h : ∀ p ∈ c, nearP p) (k : Nat) : nearP (c.getD k z30) := by
  rcases Nat.lt_or_ge k c.length with hk | hk
  · rw [List.getD_eq_getElem?_getD, List.getElem?_eq_getElem hk]
    exact h _ (List.getElem_mem hk)
  · rw [List.getD_eq_getElem?_getD, List.getElem?_eq_none hk]
    decide
set_option maxRecDepth 100000 in
set_option maxHeartbeats 4000000 in
theorem pieces1_in (n l Bc n₀ : Nat) (hn : 1 ≤ n) (c : List S30) (A : Option Addr) (cap : Nat) (hnear : ∀ p ∈ c, nearP p) (hlen : c.length ≤ 1000000000000) (W : World) (hn₀ : n₀ ≤ W.heap.size) (J Jx : List S84 → World → Prop) (hJ : AbidesFrom W.heap.size J)
    (hY : ∀ pre x W1, J pre W1 → pre.length < c.length → YieldAt Fence.wide (n - 1) Tryd.prog l #[sv x] W1 fun e W' =>
      (e = .returned (.bool true) ∧ J (pre ++ [x]) W' ∧ KpB n₀ Bc W1 W') ∨ (e = .returned (.bool false) ∧ Jx (pre ++ [x]) W'))
    (hcell : W.cell? ⟨Bc, 0, none⟩ = some (.slice A c.length cap)) (hC : ∀ W', KpB n₀ Bc W W' → Kd.C k30 W' A c.length c) (h0 : J [] W) :
    CallsIn Fence.wide n Tryd.prog 56 #[.func (.yield l) #[] #[], .pointer (some ⟨Bc, 0, none⟩)] W fun e W' => (∃ v, e = .returned v) ∧
      ((∃ ys, ys = pcs c c.length ∧ J ys W') ∨ (∃ pre, (∃ k, k ≤ c.length ∧ pre = pcs c k) ∧ Jx pre W')) := by
  have hm : c.length ≤ 9223372036854775807 := (hC W (KpB.refl _ _ _)).2.1
  have HJ := Lib.hid hJ
  have HY := Lib.hid hY
  have HC := Lib.hid hC
  have HN := Lib.hid hnear
  clear hJ hY hC hnear
  refine callsIn_of_wp Tryd.func56 rfl trivial ?_ rfl
  simp only [Tryd.ntmps56, List.size_toArray, List.length_cons, List.length_nil, Nat.reduceAdd, Nat.reduceSub, Array.replicate_succ, Array.replicate_zero, List.push_toArray, List.append_toArray, List.nil_append, List.cons_append]
  rcases Nat.eq_zero_or_pos c.length with hz | hpos
  · have e0 : ((c.length : Int) == 0) = true := by simp [hz]
    have HZ := Lib.hid hz
    clear hz
    gi_wp2
    refine bodyPost_ret (results_none rfl _ _ _) rfl ?_
    exact ⟨⟨_, rfl⟩, .inl ⟨_, by unfold pcs; rw [HZ.out]; rfl, h0⟩⟩
  have e0 : ((c.length : Int) == 0) = false := by rw [beq_eq_false_iff_ne]; omega
  gi_wp2
  gi_loopw [16] (fun i wr => ∃ k : Nat, k ≤ c.length ∧ i = .int .i64 k ∧ Hid (J (pcs c k) wr) ∧ Hid (KpB n₀ Bc W wr)) (fun i _ => c.length - (intOf i).toNat)
  case atStart => exact ⟨0, Nat.zero_le _, rfl, Lib.hid h0, Lib.hid (KpB.refl _ _ _)⟩
  case round =>
  obtain ⟨k, hk, rfl, HJs, HB⟩ := hrel
  by_cases hlt : k < c.length
  case neg =>
    obtain rfl : k = c.length := by omega
    gi_wp2
    go_end0
    exact ⟨⟨_, rfl⟩, .inl ⟨_, rfl, HJs.out⟩⟩
  have hbox : wr.cell? ⟨Bc, 0, none⟩ = some (.slice A c.length cap) := HB.out.cell hcell
  have HCr := Lib.hid (HC.out wr HB.out)
  obtain ⟨ad, hA, g0, g1, g2⟩ := pt_cells HCr.out k hlt
  subst hA
  have hcap : (k : Int) < c.length := by omega
  have hlen1 : (c.length : Int) ≤ 1000000000000 := by omega
  have hpc : pcs c (k + 1) = pcs c k ++ pieceOf (ptAt c (k + c.length - 1)) (c.getD k z30) (ptAt c (k + 1)) := pcs_succ c k
  have hple : (pcs c k).length < c.length := Nat.lt_of_le_of_lt (pcs_le c k) hlt
  have q := getD_near HN.out k
  have qn : nearP (ptAt c (k + 1)) := getD_near HN.out _
  have qb : nearP (ptAt c (k + c.length - 1)) := getD_near HN.out _
  obtain ⟨nx, hnx⟩ : ∃ q, ptAt c (k + 1) = q := ⟨_, rfl⟩
  obtain ⟨be, hbe⟩ : ∃ q, ptAt c (k + c.length - 1) = q := ⟨_, rfl⟩
  obtain ⟨p, hp⟩ : ∃ q, c.getD k z30 = q := ⟨_, rfl⟩
  rw [hnx] at qn hpc
  rw [hbe] at qb hpc
  rw [hp] at q g0 g1 g2 hpc
  obtain ⟨p0, p1, p2⟩ := p
  obtain ⟨n0, n1, n2⟩ := nx
  obtain ⟨b0, b1, b2⟩ := be
  dsimp only at g0 g1 g2
  have q0 : near12 p0 := q.1
  have q1 : near12 p1 := q.2
  have qn0 : near12 n0 := qn.1
  have qn1 : near12 n1 := qn.2
  have qb0 : near12 b0 := qb.1
  have qb1 : near12 b1 := qb.2
  unfold near12 at q0 q1 qn0 qn1 qb0 qb1
  have HNX := Lib.hid hnx
  have HBE := Lib.hid hbe
  have HPC := Lib.hid hpc
  clear hnx hbe hpc hp q qn qb
  gi_wp2_with fail
  refine ⟨trivial, ?_⟩
  obtain ⟨w1, gp, hw, hg, B1, HB1, HN1⟩ := new_box wr #[.int .i64 p0, .int .i64 p1, .bool p2] 30
  rw [hw, hg]
  refine callsIn_wide.2 ((at_any (k + 1) c (some ad) cap Bc w1 (Kd.C_below HCr.out HB1.out) (pw_cell_below HB1.out hbox) hpos (by omega) (by omega)).mono ?_)
  rintro e w2 ⟨rfl, hb⟩
  rw [show ((k : Int) + 1).toNat = k + 1 by omega, HNX.out]
  unfold pv
  dsimp only
  have HB2 := Lib.hid (bthen' HB1.out hb)
  have BP := Lib.hid (B1.out.below hb)
  have NP1 : gp < w1.heap.size := B1.out.lt
  have NP := Lib.hid (Nat.lt_of_lt_of_le NP1 hb.size)
  clear hw hg hb B1 NP1
  gi_upto_region 16 with fail
  obtain ⟨w3, gn, hw, hg, B3, HB3, HN3⟩ := new_box w2 #[.int .i64 n0, .int .i64 n1, .bool n2] 30
  obtain ⟨w4, gs, hw4, hg4, B4, HB4, HN4⟩ := new_box w3 #[.int .i64 0, .int .i64 0, .int .i64 0, .int .i64 0, .int .i64 0, .int .i64 0, .bool false] 84
  have eg : gn + 1 = gs := by rw [← hg4, ← hw, World.size_alloc, hg]
  rw [hw, hw4, hg, eg]
  have HB5 := Lib.hid (bthen' (bthen' HB2.out HB3.out) HB4.out)
  have BP4 := Lib.hid ((BP.out.below HB3.out).below HB4.out)
  have BN4 := Lib.hid (B3.out.below HB4.out)
  have m1 : gp ≠ gs := by have := NP.out; omega
  have m2 : gn ≠ gs := by omega
  have HPLE := Lib.hid hple
  clear hple
  have kp0 := BP4.out.cell 0
  have kp1 := BP4.out.cell 1
  have kp2 := BP4.out.cell 2
  have kn0 := BN4.out.cell 0
  have kn1 := BN4.out.cell 1
  have kn2 := BN4.out.cell 2
  have ks0 := B4.out.cell 0
  have ks1 := B4.out.cell 1
  have ks2 := B4.out.cell 2
  have ks3 := B4.out.cell 3
  have ks4 := B4.out.cell 4
  have ks5 := B4.out.cell 5
  have ks6 := B4.out.cell 6
  simp only [List.getElem?_toArray, List.getElem?_cons_zero, List.getElem?_cons_succ] at kp0 kp1 kp2 kn0 kn1 kn2 ks0 ks1 ks2 ks3 ks4 ks5 ks6
  have zks0 := B4.out.frozen 0
  have zks1 := B4.out.frozen 1
  have zks2 := B4.out.frozen 2
  have zks3 := B4.out.frozen 3
  have zks4 := B4.out.frozen 4
  have zks5 := B4.out.frozen 5
  have zks6 := B4.out.frozen 6
  have hgs := Lib.hid (show wr.heap.size ≤ gs by have := (bthen' HB2.out HB3.out).size; omega)
  have hbox4 := Lib.hid (pw_cell_below HB5.out hbox)
  have NGS : Hid (gs < w4.heap.size) := Lib.hid B4.out.lt
  clear hw hw4 hg hg4 eg g0 g1 g2 hbox
  rcases p2 with _ | _
  case true =>
    rcases n2 with _ | _
    case false =>
      have HP : Hid (pcs c (k + 1) = pcs c k) := Lib.hid (by rw [HPC.out]; simp [pieceOf])
      clear HPC
      gi_wp2_with fail
      go_roundw
      case rel => exact ⟨k + 1, by omega, by go_num, Lib.hid (by rw [HP.out]; exact J_below HJ.out HJs.out HB5.out), Lib.hid (HB.out.step hn₀ HB5.out)⟩
      case measure => simp [intOf]; omega
    case true =>
      have HP : Hid (pcs c (k + 1) = pcs c k ++ [⟨2 * p0, 2 * p1, 0, 0, 2 * n0, 2 * n1, false⟩]) := Lib.hid (by rw [HPC.out]; simp [pieceOf])
      clear HPC
      gi_upto_region 19 with fail
      have BS9 : Hid (Blk _ gs #[.int .i64 (2 * p0), .int .i64 (2 * p1), .int .i64 0, .int .i64 0, .int .i64 (2 * n0), .int .i64 (2 * n1), .bool false] 84) := Lib.hid (((((((B4.out.put 0 (.int .i64 (2 * p0)) rfl).put 1 (.int .i64 (2 * p1)) rfl).put 2 (.int .i64 0) rfl).put 3 (.int .i64 0) rfl).put 4 (.int .i64 (2 * n0)) rfl).put 5 (.int .i64 (2 * n1)) rfl).put 6 (.bool false) rfl)
      have HB9 := Lib.hid (bset (bset (bset (bset (bset (bset (bset HB5.out hgs.out 0 (.int .i64 (2 * p0))) hgs.out 1 (.int .i64 (2 * p1))) hgs.out 2 (.int .i64 0)) hgs.out 3 (.int .i64 0)) hgs.out 4 (.int .i64 (2 * n0))) hgs.out 5 (.int .i64 (2 * n1))) hgs.out 6 (.bool false))
      generalize World.setCell _ _ _ = w9 at *
      clear kp0 kp1 kp2 kn0 kn1 kn2 ks0 ks1 ks2 ks3 ks4 ks5 ks6 zks0 zks1 zks2 zks3 zks4 zks5 zks6
      have ks0 := BS9.out.cell 0
      have ks1 := BS9.out.cell 1
      have ks2 := BS9.out.cell 2
      have ks3 := BS9.out.cell 3
      have ks4 := BS9.out.cell 4
      have ks5 := BS9.out.cell 5
      have ks6 := BS9.out.cell 6
      simp only [List.getElem?_toArray, List.getElem?_cons_zero, List.getElem?_cons_succ] at ks0 ks1 ks2 ks3 ks4 ks5 ks6
      obtain ⟨fn, tmps, assign, body, hy, hR⟩ := HY.out (pcs c k) ⟨2 * p0, 2 * p1, 0, 0, 2 * n0, 2 * n1, false⟩ w9 (J_below HJ.out HJs.out HB9.out) HPLE.out
      unfold sv at hy
      dsimp only at hy
      have HR := Lib.hid hR
      clear hR
      gi_wp2
      refine HR.out.mono ?_
      rintro e W3 (⟨rfl, hJ3, hk3⟩ | ⟨rfl, hJx3⟩)
      · have HJ3 := Lib.hid hJ3
        have HK3 := Lib.hid hk3
        clear hJ3 hk3 hy
        gi_wp2
        go_roundw
        case rel => exact ⟨k + 1, by omega, by go_num, Lib.hid (by rw [HP.out]; exact HJ3.out), Lib.hid ((HB.out.step hn₀ HB9.out).trans HK3.out)⟩
        case measure => simp [intOf]; omega
      · have HJx3 := Lib.hid hJx3
        clear hJx3 hy
        gi_wp2
        refine bodyPost_ret (results_none rfl _ _ _) rfl ?_
        exact ⟨⟨_, rfl⟩, .inr ⟨_, ⟨k + 1, by omega, HP.out.symm⟩, HJx3.out⟩⟩
  case false =>
    clear kp0 kp1 kp2 kn0 kn1 kn2 ks0 ks1 ks2 ks3 ks4 ks5 ks6 zks0 zks1 zks2 zks3 zks4 zks5 zks6
    have kp0 := BP4.out.cell 0
    have kp1 := BP4.out.cell 1
    have kp2 := BP4.out.cell 2
    have ks0 := B4.out.cell 0
    have ks1 := B4.out.cell 1
    have ks2 := B4.out.cell 2
    have ks3 := B4.out.cell 3
    have ks4 := B4.out.cell 4
    have ks5 := B4.out.cell 5
    have ks6 := B4.out.cell 6
    simp only [List.getElem?_toArray, List.getElem?_cons_zero, List.getElem?_cons_succ] at kp0 kp1 kp2 ks0 ks1 ks2 ks3 ks4 ks5 ks6
    have zks0 := B4.out.frozen 0
    have zks1 := B4.out.frozen 1
    have zks2 := B4.out.frozen 2
    have zks3 := B4.out.frozen 3
    have zks4 := B4.out.frozen 4
    have zks5 := B4.out.frozen 5
    have zks6 := B4.out.frozen 6
    have hbx := hbox4.out
    gi_wp2_with fail
    refine ⟨trivial, ?_⟩
    clear hbx
    refine callsIn_wide.2 ((at_any (k + c.length - 1) c (some ad) cap Bc w4 (Kd.C_below HCr.out HB5.out) hbox4.out hpos (by omega) (by omega)).mono ?_)
    rintro e w5 ⟨rfl, hb⟩
    rw [show ((k : Int) + c.length - 1).toNat = k + c.length - 1 by omega, HBE.out]
    unfold pv
    dsimp only
    have HB6 := Lib.hid (bthen' HB5.out hb)
    have BP5 := Lib.hid (BP4.out.below hb)
    have BN5 := Lib.hid (BN4.out.below hb)
    have BS5 := Lib.hid (B4.out.below hb)
    clear hb
    gi_upto_region 9 with fail
    obtain ⟨w6, gb, hw, hg, B6, HC6, HD6⟩ := new_box w5 #[.int .i64 b0, .int .i64 b1, .bool b2] 30
    rw [hw, hg]
    have HB7 := Lib.hid (bthen' HB6.out HC6.out)
    have BP6 := Lib.hid (BP5.out.below HC6.out)
    have BN6 := Lib.hid (BN5.out.below HC6.out)
    have BS6 := Lib.hid (BS5.out.below HC6.out)
    have m3 : gb ≠ gs := by have := BS5.out.lt; omega
    clear hw hg
    clear kp0 kp1 kp2 ks0 ks1 ks2 ks3 ks4 ks5 ks6 zks0 zks1 zks2 zks3 zks4 zks5 zks6
    have kp0 := BP6.out.cell 0
    have kp1 := BP6.out.cell 1
    have kp2 := BP6.out.cell 2
    have ks0 := BS6.out.cell 0
    have ks1 := BS6.out.cell 1
    have ks2 := BS6.out.cell 2
    have ks3 := BS6.out.cell 3
    have ks4 := BS6.out.cell 4
    have ks5 := BS6.out.cell 5
    have ks6 := BS6.out.cell 6
    have kb0 := B6.out.cell 0
    have kb1 := B6.out.cell 1
    have kb2 := B6.out.cell 2
    simp only [List.getElem?_toArray, List.getElem?_cons_zero, List.getElem?_cons_succ] at kp0 kp1 kp2 ks0 ks1 ks2 ks3 ks4 ks5 ks6 kb0 kb1 kb2
    have zks0 := BS6.out.frozen 0
    have zks1 := BS6.out.frozen 1
    have zks2 := BS6.out.frozen 2
    have zks3 := BS6.out.frozen 3
    have zks4 := BS6.out.frozen 4
    have zks5 := BS6.out.frozen 5
    have zks6 := BS6.out.frozen 6
    gi_wp2_with fail
    refine ⟨trivial, ?_⟩
    have BB6 := B6
    have BS7 : Hid (Blk _ gs #[.int .i64 0, .int .i64 0, .int .i64 (2 * p0), .int .i64 (2 * p1), .int .i64 0, .int .i64 0, .bool true] 84) := Lib.hid (((((((BS6.out.put 0 (.int .i64 0) rfl).put 1 (.int .i64 0) rfl).put 2 (.int .i64 (2 * p0)) rfl).put 3 (.int .i64 (2 * p1)) rfl).put 4 (.int .i64 0) rfl).put 5 (.int .i64 0) rfl).put 6 (.bool true) rfl)
    have HB8 := Lib.hid (bset (bset (bset (bset (bset (bset (bset HB7.out hgs.out 0 (.int .i64 0)) hgs.out 1 (.int .i64 0)) hgs.out 2 (.int .i64 (2 * p0))) hgs.out 3 (.int .i64 (2 * p1))) hgs.out 4 (.int .i64 0)) hgs.out 5 (.int .i64 0)) hgs.out 6 (.bool true))
    have BP7 := Lib.hid (((((((BP6.out.far m1 0 (.int .i64 0)).far m1 1 (.int .i64 0)).far m1 2 (.int .i64 (2 * p0))).far m1 3 (.int .i64 (2 * p1))).far m1 4 (.int .i64 0)).far m1 5 (.int .i64 0)).far m1 6 (.bool true))
    have BN7 := Lib.hid (((((((BN6.out.far m2 0 (.int .i64 0)).far m2 1 (.int .i64 0)).far m2 2 (.int .i64 (2 * p0))).far m2 3 (.int .i64 (2 * p1))).far m2 4 (.int .i64 0)).far m2 5 (.int .i64 0)).far m2 6 (.bool true))
    have BB7 := Lib.hid (((((((BB6.out.far m3 0 (.int .i64 0)).far m3 1 (.int .i64 0)).far m3 2 (.int .i64 (2 * p0))).far m3 3 (.int .i64 (2 * p1))).far m3 4 (.int .i64 0)).far m3 5 (.int .i64 0)).far m3 6 (.bool true))
    generalize World.setCell _ _ _ = w7 at *
    refine callsIn_wide.2 ((mid_any ⟨b0, b1, b2⟩ ⟨p0, p1, false⟩ w7 qb0 qb1 q0 q1).mono ?_)
    rintro e w8 ⟨rfl, hb⟩
    dsimp only
    have HB9 := Lib.hid (bthen' HB8.out hb)
    have BP8 := Lib.hid (BP7.out.below hb)
    have BN8 := Lib.hid (BN7.out.below hb)
    have BS8 := Lib.hid (BS7.out.below hb)
    have BB8 := Lib.hid (BB7.out.below hb)
    clear hb
    clear kp0 kp1 kp2 ks0 ks1 ks2 ks3 ks4 ks5 ks6 kb0 kb1 kb2 zks0 zks1 zks2 zks3 zks4 zks5 zks6
    have kp0 := BP8.out.cell 0
    have kp1 := BP8.out.cell 1
    have kp2 := BP8.out.cell 2
    have ks0 := BS8.out.cell 0
    have ks1 := BS8.out.cell 1
    have ks2 := BS8.out.cell 2
    have ks3 := BS8.out.cell 3
    have ks4 := BS8.out.cell 4
    have ks5 := BS8.out.cell 5
    have ks6 := BS8.out.cell 6
    have kb0 := BB8.out.cell 0
    have kb1 := BB8.out.cell 1
    have kb2 := BB8.out.cell 2
    have kn0 := BN8.out.cell 0
    have kn1 := BN8.out.cell 1
    have kn2 := BN8.out.cell 2
    simp only [List.getElem?_toArray, List.getElem?_cons_zero, List.getElem?_cons_succ] at kp0 kp1 kp2 ks0 ks1 ks2 ks3 ks4 ks5 ks6 kb0 kb1 kb2 kn0 kn1 kn2
    have zks0 := BS8.out.frozen 0
    have zks1 := BS8.out.frozen 1
    have zks2 := BS8.out.frozen 2
    have zks3 := BS8.out.frozen 3
    have zks4 := BS8.out.frozen 4
    have zks5 := BS8.out.frozen 5
    have zks6 := BS8.out.frozen 6
    rcases b2 with _ | _
    case false =>
      clear kp0 kp1 kp2 ks0 ks1 ks2 ks3 ks4 ks5 ks6 kb0 kb1 kb2 kn0 kn1 kn2 zks0 zks1 zks2 zks3 zks4 zks5 zks6
      have kp0 := BP8.out.cell 0
      have kp1 := BP8.out.cell 1
      have kp2 := BP8.out.cell 2
      have ks0 := BS8.out.cell 0
      have ks1 := BS8.out.cell 1
      have ks2 := BS8.out.cell 2
      have ks3 := BS8.out.cell 3
      have ks4 := BS8.out.cell 4
      have ks5 := BS8.out.cell 5
      have ks6 := BS8.out.cell 6
      have kn0 := BN8.out.cell 0
      have kn1 := BN8.out.cell 1
      have kn2 := BN8.out.cell 2
      have kb0 := BB8.out.cell 0
      have kb1 := BB8.out.cell 1
      have kb2 := BB8.out.cell 2
      simp only [List.getElem?_toArray, List.getElem?_cons_zero, List.getElem?_cons_succ] at kp0 kp1 kp2 ks0 ks1 ks2 ks3 ks4 ks5 ks6 kn0 kn1 kn2 kb0 kb1 kb2
      have zks0 := BS8.out.frozen 0
      have zks1 := BS8.out.frozen 1
      have zks2 := BS8.out.frozen 2
      have zks3 := BS8.out.frozen 3
      have zks4 := BS8.out.frozen 4
      have zks5 := BS8.out.frozen 5
      have zks6 := BS8.out.frozen 6
      gi_wp2_with fail
      refine ⟨trivial, ?_⟩
      have BS10 : Hid (Blk _ gs #[.int .i64 (b0 + p0), .int .i64 (b1 + p1), .int .i64 (2 * p0), .int .i64 (2 * p1), .int .i64 0, .int .i64 0, .bool true] 84) := Lib.hid ((BS8.out.put 0 (.int .i64 (b0 + p0)) rfl).put 1 (.int .i64 (b1 + p1)) rfl)
      have HB11 := Lib.hid (bset (bset HB9.out hgs.out 0 (.int .i64 (b0 + p0))) hgs.out 1 (.int .i64 (b1 + p1)))
      have BP10 := Lib.hid ((BP8.out.far m1 0 (.int .i64 (b0 + p0))).far m1 1 (.int .i64 (b1 + p1)))
      have BN10 := Lib.hid ((BN8.out.far m2 0 (.int .i64 (b0 + p0))).far m2 1 (.int .i64 (b1 + p1)))
      have BB10 := Lib.hid ((BB8.out.far m3 0 (.int .i64 (b0 + p0))).far m3 1 (.int .i64 (b1 + p1)))
      generalize World.setCell _ _ _ = w10 at *
      refine callsIn_wide.2 ((mid_any ⟨p0, p1, false⟩ ⟨n0, n1, n2⟩ w10 q0 q1 qn0 qn1).mono ?_)
      rintro e w12 ⟨rfl, hb⟩
      dsimp only
      have HB13 := Lib.hid (bthen' HB11.out hb)
      have BP12 := Lib.hid (BP10.out.below hb)
      have BN12 := Lib.hid (BN10.out.below hb)
      have BS12 := Lib.hid (BS10.out.below hb)
      have BB12 := Lib.hid (BB10.out.below hb)
      clear hb
      clear kp0 kp1 kp2 ks0 ks1 ks2 ks3 ks4 ks5 ks6 kn0 kn1 kn2 kb0 kb1 kb2 zks0 zks1 zks2 zks3 zks4 zks5 zks6
      have kn0 := BN12.out.cell 0
      have kn1 := BN12.out.cell 1
      have kn2 := BN12.out.cell 2
      have ks0 := BS12.out.cell 0
      have ks1 := BS12.out.cell 1
      have ks2 := BS12.out.cell 2
      have ks3 := BS12.out.cell 3
      have ks4 := BS12.out.cell 4
      have ks5 := BS12.out.cell 5
      have ks6 := BS12.out.cell 6
      simp only [List.getElem?_toArray, List.getElem?_cons_zero, List.getElem?_cons_succ] at kn0 kn1 kn2 ks0 ks1 ks2 ks3 ks4 ks5 ks6
      have zks0 := BS12.out.frozen 0
      have zks1 := BS12.out.frozen 1
      have zks2 := BS12.out.frozen 2
      have zks3 := BS12.out.frozen 3
      have zks4 := BS12.out.frozen 4
      have zks5 := BS12.out.frozen 5
      have zks6 := BS12.out.frozen 6
      rcases n2 with _ | _
      case false =>
        have HP : Hid (pcs c (k + 1) = pcs c k ++ [⟨(b0 + p0), (b1 + p1), 2 * p0, 2 * p1, (p0 + n0), (p1 + n1), true⟩]) := Lib.hid (by rw [HPC.out]; simp [pieceOf])
        clear HPC
        gi_upto_region 19 with fail
        have BS13 : Hid (Blk _ gs #[.int .i64 (b0 + p0), .int .i64 (b1 + p1), .int .i64 (2 * p0), .int .i64 (2 * p1), .int .i64 (p0 + n0), .int .i64 (p1 + n1), .bool true] 84) := Lib.hid ((BS12.out.put 4 (.int .i64 (p0 + n0)) rfl).put 5 (.int .i64 (p1 + n1)) rfl)
        have HB14 := Lib.hid (bset (bset HB13.out hgs.out 4 (.int .i64 (p0 + n0))) hgs.out 5 (.int .i64 (p1 + n1)))
        have BP13 := Lib.hid ((BP12.out.far m1 4 (.int .i64 (p0 + n0))).far m1 5 (.int .i64 (p1 + n1)))
        have BN13 := Lib.hid ((BN12.out.far m2 4 (.int .i64 (p0 + n0))).far m2 5 (.int .i64 (p1 + n1)))
        have BB13 := Lib.hid ((BB12.out.far m3 4 (.int .i64 (p0 + n0))).far m3 5 (.int .i64 (p1 + n1)))
        generalize World.setCell _ _ _ = w13 at *
        clear kn0 kn1 kn2 ks0 ks1 ks2 ks3 ks4 ks5 ks6 zks0 zks1 zks2 zks3 zks4 zks5 zks6
        have ks0 := BS13.out.cell 0
        have ks1 := BS13.out.cell 1
        have ks2 := BS13.out.cell 2
        have ks3 := BS13.out.cell 3
        have ks4 := BS13.out.cell 4
        have ks5 := BS13.out.cell 5
        have ks6 := BS13.out.cell 6
        simp only [List.getElem?_toArray, List.getElem?_cons_zero, List.getElem?_cons_succ] at ks0 ks1 ks2 ks3 ks4 ks5 ks6
        obtain ⟨fn, tmps, assign, body, hy, hR⟩ := HY.out (pcs c k) ⟨(b0 + p0), (b1 + p1), 2 * p0, 2 * p1, (p0 + n0), (p1 + n1), true⟩ w13 (J_below HJ.out HJs.out HB14.out) HPLE.out
        unfold sv at hy
        dsimp only at hy
        have HR := Lib.hid hR
        clear hR
        gi_wp2
        refine HR.out.mono ?_
        rintro e W3 (⟨rfl, hJ3, hk3⟩ | ⟨rfl, hJx3⟩)
        · have HJ3 := Lib.hid hJ3
          have HK3 := Lib.hid hk3
          clear hJ3 hk3 hy
          gi_wp2
          go_roundw
          case rel => exact ⟨k + 1, by omega, by go_num, Lib.hid (by rw [HP.out]; exact HJ3.out), Lib.hid ((HB.out.step hn₀ HB14.out).trans HK3.out)⟩
          case measure => simp [intOf]; omega
        · have HJx3 := Lib.hid hJx3
          clear hJx3 hy
          gi_wp2
          refine bodyPost_ret (results_none rfl _ _ _) rfl ?_
          exact ⟨⟨_, rfl⟩, .inr ⟨_, ⟨k + 1, by omega, HP.out.symm⟩, HJx3.out⟩⟩
      case true =>
        have HP : Hid (pcs c (k + 1) = pcs c k ++ [⟨(b0 + p0), (b1 + p1), 2 * p0, 2 * p1, (2 * n0), (2 * n1), true⟩]) := Lib.hid (by rw [HPC.out]; simp [pieceOf])
        clear HPC
        gi_upto_region 15 with fail
        have BS13 : Hid (Blk _ gs #[.int .i64 (b0 + p0), .int .i64 (b1 + p1), .int .i64 (2 * p0), .int .i64 (2 * p1), .int .i64 (p0 + n0), .int .i64 (p1 + n1), .bool true] 84) := Lib.hid ((BS12.out.put 4 (.int .i64 (p0 + n0)) rfl).put 5 (.int .i64 (p1 + n1)) rfl)
        have HB14 := Lib.hid (bset (bset HB13.out hgs.out 4 (.int .i64 (p0 + n0))) hgs.out 5 (.int .i64 (p1 + n1)))
        have BP13 := Lib.hid ((BP12.out.far m1 4 (.int .i64 (p0 + n0))).far m1 5 (.int .i64 (p1 + n1)))
        have BN13 := Lib.hid ((BN12.out.far m2 4 (.int .i64 (p0 + n0))).far m2 5 (.int .i64 (p1 + n1)))
        have BB13 := Lib.hid ((BB12.out.far m3 4 (.int .i64 (p0 + n0))).far m3 5 (.int .i64 (p1 + n1)))
        generalize World.setCell _ _ _ = w13 at *
        clear kn0 kn1 kn2 ks0 ks1 ks2 ks3 ks4 ks5 ks6 zks0 zks1 zks2 zks3 zks4 zks5 zks6
        have ks0 := BS13.out.cell 0
        have ks1 := BS13.out.cell 1
        have ks2 := BS13.out.cell 2
        have ks3 := BS13.out.cell 3
        have ks4 := BS13.out.cell 4
        have ks5 := BS13.out.cell 5
        have ks6 := BS13.out.cell 6
        have kn0 := BN13.out.cell 0
        have kn1 := BN13.out.cell 1
        have kn2 := BN13.out.cell 2
        simp only [List.getElem?_toArray, List.getElem?_cons_zero, List.getElem?_cons_succ] at ks0 ks1 ks2 ks3 ks4 ks5 ks6 kn0 kn1 kn2
        have zks0 := BS13.out.frozen 0
        have zks1 := BS13.out.frozen 1
        have zks2 := BS13.out.frozen 2
        have zks3 := BS13.out.frozen 3
        have zks4 := BS13.out.frozen 4
        have zks5 := BS13.out.frozen 5
        have zks6 := BS13.out.frozen 6
        gi_region
        have BS14 : Hid (Blk _ gs #[.int .i64 (b0 + p0), .int .i64 (b1 + p1), .int .i64 (2 * p0), .int .i64 (2 * p1), .int .i64 (2 * n0), .int .i64 (2 * n1), .bool true] 84) := Lib.hid ((BS13.out.put 4 (.int .i64 (2 * n0)) rfl).put 5 (.int .i64 (2 * n1)) rfl).drew
        have HB15 := Lib.hid (bdrew (bset (bset HB14.out hgs.out 4 (.int .i64 (2 * n0))) hgs.out 5 (.int .i64 (2 * n1))))
        have BP14 := Lib.hid ((BP13.out.far m1 4 (.int .i64 (2 * n0))).far m1 5 (.int .i64 (2 * n1))).drew
        have BN14 := Lib.hid ((BN13.out.far m2 4 (.int .i64 (2 * n0))).far m2 5 (.int .i64 (2 * n1))).drew
        have BB14 := Lib.hid ((BB13.out.far m3 4 (.int .i64 (2 * n0))).far m3 5 (.int .i64 (2 * n1))).drew
        generalize World.drew _ = w14 at *
        gi_upto_region 19 with fail
        clear ks0 ks1 ks2 ks3 ks4 ks5 ks6 kn0 kn1 kn2 zks0 zks1 zks2 zks3 zks4 zks5 zks6
        have ks0 := BS14.out.cell 0
        have ks1 := BS14.out.cell 1
        have ks2 := BS14.out.cell 2
        have ks3 := BS14.out.cell 3
        have ks4 := BS14.out.cell 4
        have ks5 := BS14.out.cell 5
        have ks6 := BS14.out.cell 6
        simp only [List.getElem?_toArray, List.getElem?_cons_zero, List.getElem?_cons_succ] at ks0 ks1 ks2 ks3 ks4 ks5 ks6
        obtain ⟨fn, tmps, assign, body, hy, hR⟩ := HY.out (pcs c k) ⟨(b0 + p0), (b1 + p1), 2 * p0, 2 * p1, (2 * n0), (2 * n1), true⟩ w14 (J_below HJ.out HJs.out HB15.out) HPLE.out
        unfold sv at hy
        dsimp only at hy
        have HR := Lib.hid hR
        clear hR
        gi_wp2
        refine HR.out.mono ?_
        rintro e W3 (⟨rfl, hJ3, hk3⟩ | ⟨rfl, hJx3⟩)
        · have HJ3 := Lib.hid hJ3
          have HK3 := Lib.hid hk3
          clear hJ3 hk3 hy
          gi_wp2
          go_roundw
          case rel => exact ⟨k + 1, by omega, by go_num, Lib.hid (by rw [HP.out]; exact HJ3.out), Lib.hid ((HB.out.step hn₀ HB15.out).trans HK3.out)⟩
          case measure => simp [intOf]; omega
        · have HJx3 := Lib.hid hJx3
          clear hJx3 hy
          gi_wp2
          refine bodyPost_ret (results_none rfl _ _ _) rfl ?_
          exact ⟨⟨_, rfl⟩, .inr ⟨_, ⟨k + 1, by omega, HP.out.symm⟩, HJx3.out⟩⟩
    case true =>
      gi_upto_region 12 with fail
      have BS9 : Hid (Blk _ gs #[.int .i64 (b0 + p0), .int .i64 (b1 + p1), .int .i64 (2 * p0), .int .i64 (2 * p1), .int .i64 0, .int .i64 0, .bool true] 84) := Lib.hid ((BS8.out.put 0 (.int .i64 (b0 + p0)) rfl).put 1 (.int .i64 (b1 + p1)) rfl)
      have HB10 := Lib.hid (bset (bset HB9.out hgs.out 0 (.int .i64 (b0 + p0))) hgs.out 1 (.int .i64 (b1 + p1)))
      have BP9 := Lib.hid ((BP8.out.far m1 0 (.int .i64 (b0 + p0))).far m1 1 (.int .i64 (b1 + p1)))
      have BN9 := Lib.hid ((BN8.out.far m2 0 (.int .i64 (b0 + p0))).far m2 1 (.int .i64 (b1 + p1)))
      have BB9 := Lib.hid ((BB8.out.far m3 0 (.int .i64 (b0 + p0))).far m3 1 (.int .i64 (b1 + p1)))
      generalize World.setCell _ _ _ = w9 at *
      clear kp0 kp1 kp2 ks0 ks1 ks2 ks3 ks4 ks5 ks6 kb0 kb1 kb2 kn0 kn1 kn2 zks0 zks1 zks2 zks3 zks4 zks5 zks6
      have ks0 := BS9.out.cell 0
      have ks1 := BS9.out.cell 1
      have ks2 := BS9.out.cell 2
      have ks3 := BS9.out.cell 3
      have ks4 := BS9.out.cell 4
      have ks5 := BS9.out.cell 5
      have ks6 := BS9.out.cell 6
      have kb0 := BB9.out.cell 0
      have kb1 := BB9.out.cell 1
      have kb2 := BB9.out.cell 2
      simp only [List.getElem?_toArray, List.getElem?_cons_zero, List.getElem?_cons_succ] at ks0 ks1 ks2 ks3 ks4 ks5 ks6 kb0 kb1 kb2
      have zks0 := BS9.out.frozen 0
      have zks1 := BS9.out.frozen 1
      have zks2 := BS9.out.frozen 2
      have zks3 := BS9.out.frozen 3
      have zks4 := BS9.out.frozen 4
      have zks5 := BS9.out.frozen 5
      have zks6 := BS9.out.frozen 6
      gi_region
      have BS10 : Hid (Blk _ gs #[.int .i64 (2 * b0), .int .i64 (2 * b1), .int .i64 (2 * p0), .int .i64 (2 * p1), .int .i64 0, .int .i64 0, .bool true] 84) := Lib.hid ((BS9.out.put 0 (.int .i64 (2 * b0)) rfl).put 1 (.int .i64 (2 * b1)) rfl).drew
      have HB11 := Lib.hid (bdrew (bset (bset HB10.out hgs.out 0 (.int .i64 (2 * b0))) hgs.out 1 (.int .i64 (2 * b1))))
      have BP10 := Lib.hid ((BP9.out.far m1 0 (.int .i64 (2 * b0))).far m1 1 (.int .i64 (2 * b1))).drew
      have BN10 := Lib.hid ((BN9.out.far m2 0 (.int .i64 (2 * b0))).far m2 1 (.int .i64 (2 * b1))).drew
      have BB10 := Lib.hid ((BB9.out.far m3 0 (.int .i64 (2 * b0))).far m3 1 (.int .i64 (2 * b1))).drew
      generalize World.drew _ = w10 at *
      clear ks0 ks1 ks2 ks3 ks4 ks5 ks6 kb0 kb1 kb2 zks0 zks1 zks2 zks3 zks4 zks5 zks6
      have kp0 := BP10.out.cell 0
      have kp1 := BP10.out.cell 1
      have kp2 := BP10.out.cell 2
      have ks0 := BS10.out.cell 0
      have ks1 := BS10.out.cell 1
      have ks2 := BS10.out.cell 2
      have ks3 := BS10.out.cell 3
      have ks4 := BS10.out.cell 4
      have ks5 := BS10.out.cell 5
      have ks6 := BS10.out.cell 6
      have kn0 := BN10.out.cell 0
      have kn1 := BN10.out.cell 1
      have kn2 := BN10.out.cell 2
      simp only [List.getElem?_toArray, List.getElem?_cons_zero, List.getElem?_cons_succ] at kp0 kp1 kp2 ks0 ks1 ks2 ks3 ks4 ks5 ks6 kn0 kn1 kn2
      have zks0 := BS10.out.frozen 0
      have zks1 := BS10.out.frozen 1
      have zks2 := BS10.out.frozen 2
      have zks3 := BS10.out.frozen 3
      have zks4 := BS10.out.frozen 4
      have zks5 := BS10.out.frozen 5
      have zks6 := BS10.out.frozen 6
      gi_wp2_with fail
      refine ⟨trivial, ?_⟩
      refine callsIn_wide.2 ((mid_any ⟨p0, p1, false⟩ ⟨n0, n1, n2⟩ w10 q0 q1 qn0 qn1).mono ?_)
      rintro e w12 ⟨rfl, hb⟩
      dsimp only
      have HB13 := Lib.hid (bthen' HB11.out hb)
      have BP12 := Lib.hid (BP10.out.below hb)
      have BN12 := Lib.hid (BN10.out.below hb)
      have BS12 := Lib.hid (BS10.out.below hb)
      have BB12 := Lib.hid (BB10.out.below hb)
      clear hb
      clear kp0 kp1 kp2 ks0 ks1 ks2 ks3 ks4 ks5 ks6 kn0 kn1 kn2 zks0 zks1 zks2 zks3 zks4 zks5 zks6
      have kn0 := BN12.out.cell 0
      have kn1 := BN12.out.cell 1
      have kn2 := BN12.out.cell 2
      have ks0 := BS12.out.cell 0
      have ks1 := BS12.out.cell 1
      have ks2 := BS12.out.cell 2
      have ks3 := BS12.out.cell 3
      have ks4 := BS12.out.cell 4
      have ks5 := BS12.out.cell 5
      have ks6 := BS12.out.cell 6
      simp only [List.getElem?_toArray, List.getElem?_cons_zero, List.getElem?_cons_succ] at kn0 kn1 kn2 ks0 ks1 ks2 ks3 ks4 ks5 ks6
      have zks0 := BS12.out.frozen 0
      have zks1 := BS12.out.frozen 1
      have zks2 := BS12.out.frozen 2
      have zks3 := BS12.out.frozen 3
      have zks4 := BS12.out.frozen 4
      have zks5 := BS12.out.frozen 5
      have zks6 := BS12.out.frozen 6
      rcases n2 with _ | _
      case false =>
        have HP : Hid (pcs c (k + 1) = pcs c k ++ [⟨(2 * b0), (2 * b1), 2 * p0, 2 * p1, (p0 + n0), (p1 + n1), true⟩]) := Lib.hid (by rw [HPC.out]; simp [pieceOf])
        clear HPC
        gi_upto_region 19 with fail
        have BS13 : Hid (Blk _ gs #[.int .i64 (2 * b0), .int .i64 (2 * b1), .int .i64 (2 * p0), .int .i64 (2 * p1), .int .i64 (p0 + n0), .int .i64 (p1 + n1), .bool true] 84) := Lib.hid ((BS12.out.put 4 (.int .i64 (p0 + n0)) rfl).put 5 (.int .i64 (p1 + n1)) rfl)
        have HB14 := Lib.hid (bset (bset HB13.out hgs.out 4 (.int .i64 (p0 + n0))) hgs.out 5 (.int .i64 (p1 + n1)))
        have BP13 := Lib.hid ((BP12.out.far m1 4 (.int .i64 (p0 + n0))).far m1 5 (.int .i64 (p1 + n1)))
        have BN13 := Lib.hid ((BN12.out.far m2 4 (.int .i64 (p0 + n0))).far m2 5 (.int .i64 (p1 + n1)))
        have BB13 := Lib.hid ((BB12.out.far m3 4 (.int .i64 (p0 + n0))).far m3 5 (.int .i64 (p1 + n1)))
        generalize World.setCell _ _ _ = w13 at *
        clear kn0 kn1 kn2 ks0 ks1 ks2 ks3 ks4 ks5 ks6 zks0 zks1 zks2 zks3 zks4 zks5 zks6
        have ks0 := BS13.out.cell 0
        have ks1 := BS13.out.cell 1
        have ks2 := BS13.out.cell 2
        have ks3 := BS13.out.cell 3
        have ks4 := BS13.out.cell 4
        have ks5 := BS13.out.cell 5
        have ks6 := BS13.out.cell 6
        simp only [List.getElem?_toArray, List.getElem?_cons_zero, List.getElem?_cons_succ] at ks0 ks1 ks2 ks3 ks4 ks5 ks6
        obtain ⟨fn, tmps, assign, body, hy, hR⟩ := HY.out (pcs c k) ⟨(2 * b0), (2 * b1), 2 * p0, 2 * p1, (p0 + n0), (p1 + n1), true⟩ w13 (J_below HJ.out HJs.out HB14.out) HPLE.out
        unfold sv at hy
        dsimp only at hy
        have HR := Lib.hid hR
        clear hR
        gi_wp2
        refine HR.out.mono ?_
        rintro e W3 (⟨rfl, hJ3, hk3⟩ | ⟨rfl, hJx3⟩)
        · have HJ3 := Lib.hid hJ3
          have HK3 := Lib.hid hk3
          clear hJ3 hk3 hy
          gi_wp2
          go_roundw
          case rel => exact ⟨k + 1, by omega, by go_num, Lib.hid (by rw [HP.out]; exact HJ3.out), Lib.hid ((HB.out.step hn₀ HB14.out).trans HK3.out)⟩
          case measure => simp [intOf]; omega
        · have HJx3 := Lib.hid hJx3
          clear hJx3 hy
          gi_wp2
          refine bodyPost_ret (results_none rfl _ _ _) rfl ?_
          exact ⟨⟨_, rfl⟩, .inr ⟨_, ⟨k + 1, by omega, HP.out.symm⟩, HJx3.out⟩⟩
      case true =>
        have HP : Hid (pcs c (k + 1) = pcs c k ++ [⟨(2 * b0), (2 * b1), 2 * p0, 2 * p1, (2 * n0), (2 * n1), true⟩]) := Lib.hid (by rw [HPC.out]; simp [pieceOf])
        clear HPC
        gi_upto_region 15 with fail
        have BS13 : Hid (Blk _ gs #[.int .i64 (2 * b0), .int .i64 (2 * b1), .int .i64 (2 * p0), .int .i64 (2 * p1), .int .i64 (p0 + n0), .int .i64 (p1 + n1), .bool true] 84) := Lib.hid ((BS12.out.put 4 (.int .i64 (p0 + n0)) rfl).put 5 (.int .i64 (p1 + n1)) rfl)
        have HB14 := Lib.hid (bset (bset HB13.out hgs.out 4 (.int .i64 (p0 + n0))) hgs.out 5 (.int .i64 (p1 + n1)))
        have BP13 := Lib.hid ((BP12.out.far m1 4 (.int .i64 (p0 + n0))).far m1 5 (.int .i64 (p1 + n1)))
        have BN13 := Lib.hid ((BN12.out.far m2 4 (.int .i64 (p0 + n0))).far m2 5 (.int .i64 (p1 + n1)))
        have BB13 := Lib.hid ((BB12.out.far m3 4 (.int .i64 (p0 + n0))).far m3 5 (.int .i64 (p1 + n1)))
        generalize World.setCell _ _ _ = w13 at *
        clear kn0 kn1 kn2 ks0 ks1 ks2 ks3 ks4 ks5 ks6 zks0 zks1 zks2 zks3 zks4 zks5 zks6
        have ks0 := BS13.out.cell 0
        have ks1 := BS13.out.cell 1
        have ks2 := BS13.out.cell 2
        have ks3 := BS13.out.cell 3
        have ks4 := BS13.out.cell 4
        have ks5 := BS13.out.cell 5
        have ks6 := BS13.out.cell 6
        have kn0 := BN13.out.cell 0
        have kn1 := BN13.out.cell 1
        have kn2 := BN13.out.cell 2
        simp only [List.getElem?_toArray, List.getElem?_cons_zero, List.getElem?_cons_succ] at ks0 ks1 ks2 ks3 ks4 ks5 ks6 kn0 kn1 kn2
        have zks0 := BS13.out.frozen 0
        have zks1 := BS13.out.frozen 1
        have zks2 := BS13.out.frozen 2
        have zks3 := BS13.out.frozen 3
        have zks4 := BS13.out.frozen 4
        have zks5 := BS13.out.frozen 5
        have zks6 := BS13.out.frozen 6
        gi_region
        have BS14 : Hid (Blk _ gs #[.int .i64 (2 * b0), .int .i64 (2 * b1), .int .i64 (2 * p0), .int .i64 (2 * p1), .int .i64 (2 * n0), .int .i64 (2 * n1), .bool true] 84) := Lib.hid ((BS13.out.put 4 (.int .i64 (2 * n0)) rfl).put 5 (.int .i64 (2 * n1)) rfl).drew
        have HB15 := Lib.hid (bdrew (bset (bset HB14.out hgs.out 4 (.int .i64 (2 * n0))) hgs.out 5 (.int .i64 (2 * n1))))
        have BP14 := Lib.hid ((BP13.out.far m1 4 (.int .i64 (2 * n0))).far m1 5 (.int .i64 (2 * n1))).drew
        have BN14 := Lib.hid ((BN13.out.far m2 4 (.int .i64 (2 * n0))).far m2 5 (.int .i64 (2 * n1))).drew
        have BB14 := Lib.hid ((BB13.out.far m3 4 (.int .i64 (2 * n0))).far m3 5 (.int .i64 (2 * n1))).drew
        generalize World.drew _ = w14 at *
        gi_upto_region 19 with fail
        clear ks0 ks1 ks2 ks3 ks4 ks5 ks6 kn0 kn1 kn2 zks0 zks1 zks2 zks3 zks4 zks5 zks6
        have ks0 := BS14.out.cell 0
        have ks1 := BS14.out.cell 1
        have ks2 := BS14.out.cell 2
        have ks3 := BS14.out.cell 3
        have ks4 := BS14.out.cell 4
        have ks5 := BS14.out.cell 5
        have ks6 := BS14.out.cell 6
        simp only [List.getElem?_toArray, List.getElem?_cons_zero, List.getElem?_cons_succ] at ks0 ks1 ks2 ks3 ks4 ks5 ks6
        obtain ⟨fn, tmps, assign, body, hy, hR⟩ := HY.out (pcs c k) ⟨(2 * b0), (2 * b1), 2 * p0, 2 * p1, (2 * n0), (2 * n1), true⟩ w14 (J_below HJ.out HJs.out HB15.out) HPLE.out
        unfold sv at hy
        dsimp only at hy
        have HR := Lib.hid hR
        clear hR
        gi_wp2
        refine HR.out.mono ?_
        rintro e W3 (⟨rfl, hJ3, hk3⟩ | ⟨rfl, hJx3⟩)
        · have HJ3 := Lib.hid hJ3
          have HK3 := Lib.hid hk3
          clear hJ3 hk3 hy
          gi_wp2
          go_roundw
          case rel => exact ⟨k + 1, by omega, by go_num, Lib.hid (by rw [HP.out]; exact HJ3.out), Lib.hid ((HB.out.step hn₀ HB15.out).trans HK3.out)⟩
          case measure => simp [intOf]; omega
        · have HJx3 := Lib.hid hJx3
          clear hJx3 hy
          gi_wp2
          refine bodyPost_ret (results_none rfl _ _ _) rfl ?_
          exact ⟨⟨_, rfl⟩, .inr ⟨_, ⟨k + 1, by omega, HP.out.symm⟩, HJx3.out⟩⟩
theorem pieces_stops (n Bc n₀ : Nat) (hn : 1 ≤ n) (c : List S30) (A : Option Addr) (cap : Nat) (hnear : ∀ p ∈ c, nearP p) (hlen : c.length ≤ 1000000000000) (w : World) (hn₀ : n₀ ≤ w.heap.size) (hcell : w.cell? ⟨Bc, 0, none⟩ = some (.slice A c.length cap)) (hC : ∀ W', KpB n₀ Bc w W' → Kd.C k30 W' A c.length c) :
    SeqStopsK Fence.wide n Tryd.prog 56 #[.pointer (some ⟨Bc, 0, none⟩)] (fun x : S84 => #[sv x]) (KpB n₀ Bc) (fun ys => ys = pcs c c.length) (fun pre => ∃ k, k ≤ c.length ∧ pre = pcs c k) c.length w := fun l J Jx W hW hJ _ hY h0 => by
  have hK : KpB n₀ Bc w W := KpB.of hW hn₀
  exact pieces1_in n l Bc n₀ hn c A cap hnear hlen W (Nat.le_trans hn₀ hW.size) J Jx hJ hY (hK.cell hcell) (fun W' h' => hC W' (hK.trans h')) h0
end Go.Proofs.YtleljodcdbhifaaDoor
/- All pieces of an outline. -/
set_option linter.unusedVariables false
set_option linter.unusedSimpArgs false
namespace Go.Proofs.YtleljodcdbhifaaDoor
open Go.RowKit Go.Shelf Go.Proofs.YtleljodcdbhifaaDoorW.PrintWords Go.Proofs.YtleljodcdbhifaaDoorW.PrintLast Go.Proofs.YtleljodcdbhifaaDoorW.PrintMore Hy
attribute [local go_sem] Oper.semAt_some
def nearB (n : Int) : Bool := decide (near12 n)
def farB (p : S30) : Bool := !nearB p.f0 || !nearB p.f1
theorem farB_false {p : S30} (h : farB p = false) : nearP p := by
  unfold farB nearB at h
  simp only [Bool.or_eq_false_iff, Bool.not_eq_false', decide_eq_true_eq] at h
  exact h
theorem near_any (n : Int) (w : World) : Calls Tryd.prog 31 #[.int .i64 n] w fun e w' => e = .returned (.bool (nearB n)) ∧ w = w' := by
  by_cases h1 : -4096 ≤ n
  · have d1 : decide (-4096 ≤ n) = true := decide_eq_true h1
    have E : nearB n = decide (n ≤ 4096) := by unfold nearB near12; simp [h1]
    rw [E]
    clear E h1
    go_enter Tryd.func31, Tryd.ntmps31
    go_wp2
    go_ret
    exact ⟨rfl, rfl⟩
  · have d1 : decide (-4096 ≤ n) = false := decide_eq_false h1
    have E : nearB n = false := decide_eq_false (fun h => h1 h.1)
    rw [E]
    clear E h1
    go_enter Tryd.func31, Tryd.ntmps31
    go_wp2
    go_ret
    exact ⟨rfl, rfl⟩
theorem far_any (p : S30) (w : World) : Calls Tryd.prog 48 #[pv p] w fun e w' => e = .returned (.bool (farB p)) ∧ Below w.heap.size w w' := by
  obtain ⟨p0, p1, p2⟩ := p
  unfold pv farB
  dsimp only
  have N0 := Lib.hid (near_any p0)
  have N1 := Lib.hid (near_any p1)
  generalize nearB p0 = b0 at *
  generalize nearB p1 = b1 at *
  have H0 := Lib.hid (balloc (Below.refl w.heap.size w) (.cells #[.int .i64 p0, .int .i64 p1, .bool p2] 30))
  have hu := Tryd.underlying30
  cases b0 with
  | false =>
    go_enter Tryd.func48, Tryd.ntmps48
    go_wp2_with fail
    refine (N0.out _).mono ?_
    rintro e w' ⟨rfl, rfl⟩
    go_wp2_with fail
    go_ret
    exact ⟨rfl, H0.out⟩
  | true =>
    go_enter Tryd.func48, Tryd.ntmps48
    go_wp2_with fail
    refine (N0.out _).mono ?_
    rintro e w' ⟨rfl, rfl⟩
    go_wp2_with fail
    refine (N1.out _).mono ?_
    rintro e w' ⟨rfl, rfl⟩
    go_wp2_with fail
    go_ret
    exact ⟨by cases b1 <;> rfl, H0.out⟩
/-- all pieces of an outline -/
def allP (l : List (List S30)) : List S84 := l.flatMap fun c => pcs c c.length
def nearL (l : List (List S30)) : Bool := !l.any fun c => c.any farB
def allR (l : List (List S30)) : List S84 := if nearL l = true then allP l else []
def Hy.scan_all.f (l : List (List S30)) : Option (List S84 × Bool) :=
  if l.length ≤ 1000000 ∧ ∀ c ∈ l, c.length ≤ 1000000 then some (allR l, nearL l) else none
theorem allP_snoc (l : List (List S30)) (c : List S30) : allP (l ++ [c]) = allP l ++ pcs c c.length := by simp [allP]
theorem allP_le (l : List (List S30)) (h : ∀ c ∈ l, c.length ≤ 1000000) : (allP l).length ≤ l.length * 1000000 := by
  induction l with
  | nil => simp [allP]
  | cons c l ih =>
    have h1 := ih (fun c' hc => h c' (List.mem_cons_of_mem _ hc))
    have h2 := pcs_le c c.length
    have h3 := h c List.mem_cons_self
    have e : (allP (c :: l)).length = (pcs c c.length).length + (allP l).length := by simp [allP]
    rw [e, List.length_cons]
    omega
theorem R_turn {α : Type} {d : Kd α} {e : Nat} {w w1 : World} {base : Nat} {ok : Nat → Prop} {v : Value} {xs : List α} (h : d.R e w base ok v xs) {row : Option Nat} (hg : w.grownBy w1 row) (hr : ∀ r, row = some r → ∃ o : Obj, w.heap[r]? = some o ∧ o.isCells = false) : d.R e w1 base ok v xs :=
  Kd.R_mono (Kd.R_move (Kd.R_bound h) (fun k hk => hg.block k hk.2.2.1 (by
    intro e
    obtain ⟨o, ho, hc⟩ := hr k e.symm
    obtain ⟨_, _, _, q, _, cells, hcell⟩ := hk
    rw [ho] at hcell
    cases hcell; cases hc))) (fun _ hk => hk.1)
theorem Blk_turn {w w1 : World} {g : Nat} {cs : Array Value} {t : TypeId} (h : Blk w g cs t) {row : Option Nat} (hg : w.grownBy w1 row) (hr : ∀ r, row = some r → ∃ o : Obj, w.heap[r]? = some o ∧ o.isCells = false) : Blk w1 g cs t :=
  (hg.block g h.lt (by
    intro e
    obtain ⟨o, ho, hc⟩ := hr g e.symm
    unfold Blk at h
    rw [ho] at h
    cases h; cases hc)).trans h
theorem infoPc : (Tryd.prog.info? 84).map (fun i => (i.zero, i.size, i.bytes)) = some (some (.agg #[(.int .i64 0), (.int .i64 0), (.int .i64 0), (.int .i64 0), (.int .i64 0), (.int .i64 0), (.bool false)]), 7, 56) := by kernel_rfl
/-- where all stands between two contours, and between two pieces -/
structure InAll (w0 : World) (g : Nat) (Ds : List Nat) (ps : List S84) (v : Value) (W : World) : Prop where
  box : Blk W g #[v] 62
  row : Kd.R k84 84 W w0.heap.size (fun _ => True) v ps
  below : Below w0.heap.size w0 W
  marks : Marks w0.heap.size W Ds
theorem InAll.turn {w0 : World} {g : Nat} {Ds : List Nat} {ps : List S84} {v : Value} {W W' : World} {B : Nat} (h : InAll w0 g Ds ps v W) (hB : w0.heap.size ≤ B) (hD : ∀ D ∈ Ds, D < B) {row : Option Nat} (hg : W.grownBy W' row) (hr : ∀ r, row = some r → B ≤ r ∧ ∃ o : Obj, W.heap[r]? = some o ∧ o.isCells = false) : InAll w0 g Ds ps v W' where
  box := Blk_turn h.box hg (fun r e => (hr r e).2)
  row := R_turn h.row hg (fun r e => (hr r e).2)
  below := ownFrom_below (β := Unit) (Nat.le_refl _) hB () W W' row h.below hg hr
  marks := h.marks.kept (fun D hD' hl => hg.block D hl (by
    intro e
    have h1 := (hr D e.symm).1
    have h2 := hD D hD'
    omega))
theorem InAll.apart {w0 : World} {g : Nat} {Ds : List Nat} {ps : List S84} {v : Value} {W : World} (h : InAll w0 g Ds ps v W) : g ∉ Ds := by
  intro hg
  have h1 := (h.marks.2 g hg).2
  have h2 := h.box
  unfold Blk at h2
  rw [h1] at h2
  cases h2
/-- the store of a result, and leaving -/
theorem all_leaves {w0 : World} {g : Nat} {Ds : List Nat} {ps : List S84} {v : Value} {W : World} (h : InAll w0 g Ds ps v W) (hg : w0.heap.size ≤ g) (u : Value) (b : Bool) (qs : List S84) (tmps : Array Value) (h2 : tmps.getD 2 undef = .pointer (some ⟨g, 0, none⟩)) (h3 : tmps.getD 3 undef = .bool b)
    (hu : Kd.R k84 84 W w0.heap.size (fun _ => True) u qs) :
    LeavesInM Fence.wide 3 Tryd.prog Tryd.f30 tmps (fun e w' => ∃ v, e = .returned (.tuple #[v, .bool b]) ∧ Kd.R k84 84 w' w0.heap.size (fun _ => True) v qs ∧ Below w0.heap.size w0 w') (Ds.map mark) .returning (W.setCell ⟨g, 0, none⟩ u) := by
  have hB : Blk (W.setCell ⟨g, 0, none⟩ u) g #[u] 62 := h.box.put 0 u rfl
  have hM : Marks w0.heap.size (W.setCell ⟨g, 0, none⟩ u) Ds := h.marks.setCell _ _ ⟨_, h.box, rfl⟩
  have hR : Kd.R k84 84 (W.setCell ⟨g, 0, none⟩ u) w0.heap.size (fun _ => True) u qs := Kd.R_set hu h.box (by intro q hq; simp [k84, Kd.iso, Kd.pair, Kd.int, Kd.bool, Kd.scalar] at hq; omega) 0 u
  refine leaves_marks Ds _ hM (fun w' hb hs => ⟨.tuple #[u, .bool b], ?_, u, rfl, ?_, (bset h.below hg 0 u).trans hb⟩)
  · have hB' : Blk w' g #[u] 62 := (hs g h.apart).trans hB
    have hc := hB'.cell 0
    simp only [List.getElem?_toArray, List.getElem?_cons_zero] at hc
    have h2' : tmps[2]?.getD undef = .pointer (some ⟨g, 0, none⟩) := by simpa using h2
    have h3' : tmps[3]?.getD undef = .bool b := by simpa using h3
    simp [results, Tryd.f30, go_sem, h2', h3', hc]
  · exact Kd.R_mono (Kd.R_move (Kd.R_bound hR) (fun k hk => hs k (by
      intro hD
      obtain ⟨_, _, _, q, _, cells, hcell⟩ := hk
      rw [(hM.2 k hD).2] at hcell
      cases hcell))) (fun _ hk => hk.1)
theorem nearL_snoc (l : List (List S30)) (c : List S30) (h : nearL l = true) (hc : c.any farB = false) : nearL (l ++ [c]) = true := by
  unfold nearL at *
  rw [List.any_append]
  simp only [Bool.not_eq_true'] at h
  rw [h]
  simp [hc]
theorem nearL_bad (l : List (List S30)) (c : List S30) (hm : c ∈ l) (hc : c.any farB = true) : nearL l = false := by
  unfold nearL
  rw [List.any_eq_true.2 ⟨c, hm, hc⟩]; rfl
set_option maxRecDepth 100000 in
set_option maxHeartbeats 4000000 in
theorem all_any (A : Option Addr) (cap : Nat) (l : List (List S30)) (w : World) (hC : Kd.C (Kd.slice 30 k30) w A l.length l) (hl : l.length ≤ 1000000) (hc : ∀ c ∈ l, c.length ≤ 1000000) :
    Calls Tryd.prog 30 #[.slice A l.length cap] w fun e w' => ∃ v, e = .returned (.tuple #[v, .bool (nearL l)]) ∧ Kd.R k84 84 w' w.heap.size (fun _ => True) v (allR l) ∧ Below w.heap.size w w' := by
  refine callsIn_wide.1 (callsIn_of_wp_marks (n := 3) Tryd.func30 rfl trivial (wpIn_wide.2 ?_) rfl)
  simp only [Tryd.ntmps30, List.size_toArray, List.length_cons, List.length_nil, Nat.reduceAdd, Nat.reduceSub, Array.replicate_succ, Array.replicate_zero, List.push_toArray, List.append_toArray, List.nil_append, List.cons_append]
  have HC := Lib.hid hC
  have HL := Lib.hid hl
  have HLC := Lib.hid hc
  clear hC hl hc
  go_upto_region 1 with fail
  obtain ⟨w1, g, hw, hg, B1, HB1, HN1⟩ := new_box w #[.slice none 0 0] 62
  rw [hw, hg]
  have HW := Lib.hid hw
  have HG := Lib.hid hg
  clear hw hg
  have hm : l.length ≤ 9223372036854775807 := HC.out.2.1
  go_wp2_with fail
  refine loop_acts (fun a W => ∃ (k : Nat) (u5 u6 u10 u11 u12 u13 u14 u15 u16 u17 u18 u19 u20 u21 u22 u23 : Value) (Ds : List Nat) (v : Value), k ≤ l.length ∧ a = { tmps := #[.slice A l.length cap, undef, .pointer (some ⟨g, 0, none⟩), .bool false, undef, u5, u6, .slice A l.length cap, .int .i64 l.length, .int .i64 k, u10, u11, u12, u13, u14, u15, u16, u17, u18, u19, u20, u21, u22, u23], defers := Ds.map mark } ∧ Hid (InAll w g Ds (allP (l.take k)) v W) ∧ Hid (nearL (l.take k) = true)) (fun a _ => l.length - (intOf (a.tmps.getD 9 undef)).toNat) ?_ ?_
  · exact ⟨0, _, _, _, _, _, _, _, _, _, _, _, _, _, _, _, _, [], _, Nat.zero_le _, rfl, Lib.hid ⟨B1.out, Kd.R_nil _ _ _ _ _, HB1.out, Marks.nil _ _⟩, Lib.hid rfl⟩
  rintro Kn a W ⟨k, u5, u6, u10, u11, u12, u13, u14, u15, u16, u17, u18, u19, u20, u21, u22, u23, Ds, v, hk, rfl, HI, HQ⟩ HK
  by_cases hlt : k < l.length
  case neg =>
    obtain rfl : k = l.length := by omega
    clear HK
    have HE : l.take l.length = l := List.take_length
    rw [HE] at HI HQ
    obtain ⟨A', c', rfl⟩ := Kd.R_slice HI.out.row
    have hx := HI.out.box.cell 0
    have hz := HI.out.box.frozen 0
    simp only [List.getElem?_toArray, List.getElem?_cons_zero] at hx
    have HR : Hid (allR l = allP l) := Lib.hid (by unfold allR; rw [HQ.out]; rfl)
    go_wp2_with fail
    rw [HR.out, HQ.out]
    exact all_leaves HI.out (Nat.le_of_eq HG.out) _ true _ _ rfl rfl HI.out.row
  have HKK := Lib.hid HK
  clear HK
  obtain ⟨ad, cs, hA, hcl, hKr, hcell⟩ := Kd.C_get HC.out [] (k : Int) (by omega) (by omega)
  rw [Int.toNat_natCast] at hKr hcell
  obtain ⟨A1, c1, rfl, hc1, hC1⟩ := hKr
  have h0 := hcell 0 _ rfl
  have e00 : w.cell? (ad.add k) = some (.slice A1 (l.getD k []).length c1) := by simpa [Kd.slice] using h0
  have e0 := pw_cell_below HI.out.below e00
  subst hA
  have hmem : l.getD k [] ∈ l := by
    rw [List.getD_eq_getElem?_getD, List.getElem?_eq_getElem hlt]
    exact List.getElem_mem hlt
  have htk : l.take (k + 1) = l.take k ++ [l.getD k []] := by
    rw [List.take_succ_eq_append_getElem hlt, List.getD_eq_getElem?_getD, List.getElem?_eq_getElem hlt]; rfl
  have hn1 : (l.getD k []).length ≤ 1000000 := HLC.out _ hmem
  obtain ⟨ct, hct⟩ : ∃ ct, l.getD k [] = ct := ⟨_, rfl⟩
  rw [hct] at hC1 e0 hn1 hmem htk
  have HC0 := Lib.hid hC1
  have HC1 := Lib.hid (Kd.C_below hC1 HI.out.below)
  have HT := Lib.hid htk
  have HM := Lib.hid hmem
  have hcap : (k : Int) < l.length := by omega
  clear hct hC1 htk hmem hcell hcl h0 e00
  go_wp2_with fail
  refine (any_far farB ct A1 c1 W HC1.out (fun x _ w1 _ => far_any x w1)).mono ?_
  rintro e W1 ⟨rfl, hb⟩
  have HI1 : InAll w g Ds (allP (l.take k)) v W1 := ⟨HI.out.box.below hb, Kd.R_below HI.out.row hb, HI.out.below.trans (hb.mono HI.out.below.size), HI.out.marks.below hb⟩
  have HR1 := Lib.hid (Kd.C_below HC1.out hb)
  have HI2 := Lib.hid HI1
  have hfar : ct.any farB = true ∨ ct.any farB = false := by cases ct.any farB <;> simp
  clear hb HI HC1 e0
  rcases hfar with hfar | hfar
  · rw [hfar]
    have HF := Lib.hid hfar
    clear hfar HKK
    obtain ⟨A', c', rfl⟩ := Kd.R_slice HI1.row
    have hx := HI1.box.cell 0
    have hz := HI1.box.frozen 0
    simp only [List.getElem?_toArray, List.getElem?_cons_zero] at hx
    clear HI1
    have HQ2 : Hid (nearL l = false) := Lib.hid (nearL_bad l ct HM.out HF.out)
    have HR : Hid (allR l = []) := Lib.hid (by unfold allR; rw [HQ2.out]; rfl)
    go_wp2_with fail
    rw [HR.out, HQ2.out]
    exact all_leaves HI2.out (Nat.le_of_eq HG.out) (.slice none 0 0) false [] _ rfl rfl (Kd.R_nil _ _ _ _ _)
  · rw [hfar]
    have HF := Lib.hid hfar
    clear hfar HI1
    go_wp2_with fail
    refine (pieces_any A1 ct.length c1 W1).mono ?_
    rintro e W2 ⟨rfl, rfl⟩
    obtain ⟨W2, gB, hw, hg, B2, HB2, HN2⟩ := new_box W1 #[.slice A1 ct.length c1] 28
    rw [hw, hg]
    have hsz : W1.heap.size ≤ W2.heap.size := HB2.out.size
    have hw1 : w.heap.size ≤ W1.heap.size := HI2.out.below.size
    have hDs : Hid (∀ D ∈ Ds, D < W2.heap.size) := Lib.hid (fun D hD => Nat.lt_of_lt_of_le (HI2.out.marks.lt hD) hsz)
    have hI3 : InAll w g Ds (allP (l.take k) ++ []) v W2 := by
      rw [List.append_nil]
      exact ⟨HI2.out.box.below HB2.out, Kd.R_below HI2.out.row HB2.out, HI2.out.below.trans (HB2.out.mono hw1), HI2.out.marks.below HB2.out⟩
    have hnear : ∀ p ∈ ct, nearP p := fun p hp => farB_false (by
      have h := List.any_eq_false.1 HF.out p hp
      simpa using h)
    have hall : (allP (l.take k)).length ≤ k * 1000000 := by
      have h := allP_le (l.take k) (fun c hc => HLC.out c (List.mem_of_mem_take hc))
      rw [List.length_take, Nat.min_eq_left hk] at h
      exact h
    have hl6 := HL.out
    clear hg
    go_wp2_with fail
    refine wpIn_wide.1 (wpIn_rangeFunc_ownH (n := 3) (F := Fence.wide) rfl (by omega) (gf := 56) (lb := #[.pointer (some ⟨gB, 0, none⟩)]) rfl trivial (enters_of Tryd.func56 (by kernel_rfl) rfl)
      (pieces_stops 2 gB w.heap.size (by omega) ct A1 c1 hnear (by omega) W2 (by omega) (B2.out.cell 0) (fun W' hK => Kd.C_below HC0.out (hI3.below.trans hK.below))) KpB.trans (KpB.putObj (by omega)) (Below.refl _ _) (fun _ => rfl)
      (fun pre W' => ∃ v, InAll w g Ds (allP (l.take k) ++ pre) v W' ∧ Blk W' gB #[.slice A1 ct.length c1] 28)
      (fun _ _ _ => False) ?hI (fun c s A B row h _ _ => h) ⟨v, hI3, B2.out⟩
      (fun x a' W' => ∃ Bx, Blk W' Bx #[.int .i64 x.f0, .int .i64 x.f1, .int .i64 x.f2, .int .i64 x.f3, .int .i64 x.f4, .int .i64 x.f5, .bool x.f6] 84 ∧ a' = { tmps := #[.slice (some ad) l.length cap, undef, .pointer (some ⟨g, 0, none⟩), .bool false, undef, .slice A1 ct.length c1, .pointer (some ⟨Bx, 0, none⟩), .slice (some ad) l.length cap, .int .i64 l.length, .int .i64 k, .bool true, .pointer (some (ad.add k)), .slice A1 ct.length c1, .slice A1 ct.length c1, .bool false, .slice A1 ct.length c1, .func (.func 56) #[] #[.pointer (some ⟨gB, 0, none⟩)], sv x, u18, u19, u20, u21, u22, u23], defers := [] }) ?hAx ?assign ?body ?done ?stop)
    case hI =>
      rintro pre X Y row ⟨v, h, hB⟩ hg hr
      exact ⟨v, h.turn (by omega) hDs.out hg hr, Blk_turn hB hg (fun r e => (hr r e).2)⟩
    case hAx =>
      rintro x a' s X Y row ⟨Bx, hB, e⟩ hg hr
      exact ⟨Bx, Blk_turn hB hg (fun r e => (hr r e).2), e⟩
    case assign =>
      rintro lp pre x W3 K ⟨v3, h3, hB3⟩ hK
      obtain ⟨x0, x1, x2, x3, x4, x5, x6⟩ := x
      have HK3 := Lib.hid hK
      clear hK
      unfold sv
      gi_wp2
      refine HK3.out _ _ ((KeepsOthers.alloc _ _).from _) (KpB.of (balloc (Below.refl _ _) _) h3.below.size) ⟨v3, ?_, hB3.alloc _⟩ ⟨W3.heap.size, Blk.new W3 _ _ rfl, rfl⟩
      exact ⟨h3.box.alloc _, Kd.R_below h3.row (balloc (Below.refl _ _) _), h3.below.trans ((balloc (Below.refl _ _) _).mono h3.below.size), h3.marks.below (balloc (Below.refl _ _) _)⟩
    case body =>
      rintro lp pre x a' W3 hlp ⟨rl, hrl⟩ ⟨v3, h3, hB3⟩ ⟨Bx, hBx, rfl⟩ hlen
      obtain ⟨x0, x1, x2, x3, x4, x5, x6⟩ := x
      unfold sv
      dsimp only at hBx ⊢
      obtain ⟨A', c', rfl⟩ := Kd.R_slice h3.row
      have hx := h3.box.cell 0
      have hz := h3.box.frozen 0
      have b0 := hBx.cell 0
      have b1 := hBx.cell 1
      have b2 := hBx.cell 2
      have b3 := hBx.cell 3
      have b4 := hBx.cell 4
      have b5 := hBx.cell 5
      have b6 := hBx.cell 6
      simp only [List.getElem?_toArray, List.getElem?_cons_zero, List.getElem?_cons_succ] at hx b0 b1 b2 b3 b4 b5 b6
      have hu84 := Tryd.underlying84
      have H3 := Lib.hid h3
      have HB3 := Lib.hid hB3
      have HRL := Lib.hid hrl
      clear h3 hB3 hrl hBx
      have hle : (allP (l.take k) ++ pre).length + 1 ≤ 1000000000001 := by rw [List.length_append]; omega
      have HLE := Lib.hid hle
      obtain ⟨ps, hps⟩ : ∃ ps, allP (l.take k) ++ pre = ps := ⟨_, rfl⟩
      rw [hps] at hx H3 HLE
      have HPS := Lib.hid hps
      clear hps hle
      gi_wp2_with (gi_at_builtin; go_loud (refine R_append_in k84 (w0 := w) w.heap.size rfl (.tmp 18) (.tmp 20) 62 84 _ 56 rfl Tryd.underlying62 infoPc rfl (by decide) (by omega) (.slice A' ps.length c') ps ⟨x0, x1, x2, x3, x4, x5, x6⟩ [.int .i64 x0, .int .i64 x1, .int .i64 x2, .int .i64 x3, .int .i64 x4, .int .i64 x5, .bool x6] (fun _ => True) (fun _ => False) rfl rfl ⟨[_], _, rfl, rfl, [_], _, rfl, rfl, [_], _, rfl, rfl, [_], _, rfl, rfl, [_], _, rfl, rfl, [_], _, rfl, rfl, rfl⟩ (fun _ h => h.elim) (fun _ _ => trivial) H3.out.row H3.out.below H3.out.below.size (by have := HLE.out; omega) ?_); intro v4 w4 hR4 hB4 hg4 hat4; obtain ⟨A4, c4, rfl⟩ := Kd.R_slice hR4; have HR4 := Lib.hid hR4; have HB4 := Lib.hid hB4; have HG4 := Lib.hid hg4; have bx4 : Blk w4 g #[.slice A' ps.length c'] 62 := (hg4.block g H3.out.box.lt (Kd.R_ne H3.out.row H3.out.box (by decide))).trans H3.out.box; have hx4 := bx4.cell 0; have hz4 := bx4.frozen 0; simp only [List.getElem?_toArray, List.getElem?_cons_zero] at hx4; have BX4 := Lib.hid bx4; clear hR4 hB4 hg4 hat4 bx4 hx hz b0 b1 b2 b3 b4 b5 b6)
      have hB3' := HB3.out
      obtain ⟨inner, hown⟩ := Kd.R_own H3.out.row
      have hrow : ∀ j, (Value.slice A' ps.length c').ownBlock = some j → ∃ o : Obj, W3.heap[j]? = some o ∧ o.isCells = true := fun j hj => by
        obtain ⟨cells, hc⟩ := own_typed hown j hj
        exact ⟨_, hc, rfl⟩
      have nB : some gB ≠ (Value.slice A' ps.length c').ownBlock := Kd.R_ne H3.out.row hB3' (by decide)
      have B4 : Blk w4 gB #[.slice A1 ct.length c1] 28 := (HG4.out.block gB hB3'.lt nB).trans hB3'
      have ng : gB ≠ g := blk_ne (w := w4) B4 BX4.out (by decide)
      have M4 : Marks w.heap.size w4 Ds := H3.out.marks.kept (fun D hD hl => HG4.out.block D hl (by
        intro e
        obtain ⟨o, ho, hc⟩ := hrow D e.symm
        rw [(H3.out.marks.2 D hD).2] at ho
        cases ho; cases hc))
      have hgg : w.heap.size ≤ g := Nat.le_of_eq HG.out
      refine ⟨((KeepsOthers.of_grownBy HG4.out (fun j o e ho => by
          obtain ⟨o', ho', hc'⟩ := hrow j e
          rw [ho] at ho'; cases ho'; exact hc')).trans (KeepsOthers.setCell _ _ _)).from _, ⟨?_, ?_⟩, .slice A4 (ps.length + 1) c4, ⟨?_, ?_, bset HB4.out hgg 0 _, M4.setCell _ _ ⟨_, BX4.out, rfl⟩⟩, B4.far ng 0 _⟩
      · exact ((Below.refl w.heap.size W3).grown HG4.out H3.out.below.size (own_base hown)).setCell hgg _
      · intro o ho e
        rw [Below.heap_setCell w4 ⟨g, 0, none⟩ _ gB ng]
        exact (HG4.out.block gB hB3'.lt nB).trans e
      · exact BX4.out.put 0 _ rfl
      · have h4 : Kd.R k84 84 w4 w.heap.size (fun _ => True) (.slice A4 (ps.length + 1) c4) (ps ++ [⟨x0, x1, x2, x3, x4, x5, x6⟩]) := by
          have h := HR4.out
          rw [List.length_append, List.length_singleton] at h
          exact h
        rw [← List.append_assoc, HPS.out]
        exact Kd.R_set h4 BX4.out (by intro q hq; simp [k84, Kd.iso, Kd.pair, Kd.int, Kd.bool, Kd.scalar] at hq; omega) 0 _
    case done =>
      rintro D ys W3 hD rfl ⟨v3, h3, hB3⟩ hK
      go_wp2_with fail
      have hT : allP (l.take (k + 1)) = allP (l.take k) ++ pcs ct ct.length := by rw [HT.out, allP_snoc]
      refine HKK.out _ _ ⟨k + 1, _, _, _, _, _, _, _, _, _, _, _, _, _, _, _, _, D :: Ds, v3, by omega, rfl, Lib.hid ?_, Lib.hid ?_⟩ ?_
      · rw [hT]
        exact ⟨h3.box, h3.row, h3.below, h3.marks.cons (by omega) hK (fun hm => by have := hDs.out D hm; omega)⟩
      · rw [HT.out]; exact nearL_snoc _ _ HQ.out HF.out
      · simp [intOf]; omega
    case stop =>
      rintro D c pre W3 _ _ h _
      exact h.elim
theorem Hy.scan_all.calls (A : Option Addr) (c : Nat) (l : List (List S30)) (r1 : List S84) (r2 : Bool) (w : World) (hr : Kd.C (Kd.slice 30 k30) w A l.length l) (hc : l.length ≤ c) (h : scan_all.f l = some (r1, r2)) :
    Calls Tryd.prog 30 #[.slice A l.length c] w fun e w' => ∃ v, e = .returned (.tuple #[v, .bool r2]) ∧ Kd.R k84 84 w' w.heap.size (fun _ => True) v r1 ∧ Below w.heap.size w w' := by
  unfold scan_all.f at h
  split at h
  · rename_i hn
    simp only [Option.some.injEq, Prod.mk.injEq] at h
    obtain ⟨rfl, rfl⟩ := h
    exact all_any A c l w hr hn.1 hn.2
  · cases h
end Go.Proofs.YtleljodcdbhifaaDoor
