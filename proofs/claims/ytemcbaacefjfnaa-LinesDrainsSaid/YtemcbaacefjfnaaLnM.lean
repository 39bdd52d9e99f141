/- The checks of the chapter's examples answer yes. -/
import Derived.Test.YtemcbaacefjfnaaLnL
set_option linter.unusedVariables false
set_option linter.unusedSimpArgs false
namespace Go.Proofs.Ytemcbaacefjfnaa
open Go.RowKit Go.Proofs.YtemcbaacefjfnaaW.PrintWords Go.Proofs.YtemcbaacefjfnaaW.PrintLast

theorem SR.block {w : World} {g : Nat} {scr : List Tb} (h : Blk w g (flatT scr).toArray 43) : SR w 0 (.slice (some ⟨g, 0, none⟩) scr.length scr.length) scr :=
  .inr ⟨g, 0, scr.length, rfl, Nat.zero_le _, h.lt, Nat.le_refl _, fun j u hu => by rw [h.cell, Nat.zero_add]; simpa using hu⟩
def scrS : List Tb := [⟨true, 0, 0⟩, ⟨false, 2, 5⟩, ⟨false, 1, 1⟩]
def txS : Nat → ByteArray
  | 0 => ⟨#[97]⟩
  | 1 => ⟨#[98]⟩
  | 2 => ⟨#[99]⟩
  | _ => ⟨#[100]⟩
def mS : Nat → List Wt
  | 0 => []
  | k + 1 => mS k ++ sendL 2 k scrS 0 0 1 (txS k)
theorem mS4 : mS 4 = ([⟨0, 1, ⟨#[98]⟩, 5, 1⟩, ⟨0, 1, ⟨#[98]⟩, 6, 1⟩, ⟨0, 1, ⟨#[99]⟩, 1, 2⟩, ⟨0, 1, ⟨#[100]⟩, 0, 3⟩] : List Wt) := by rfl
theorem sS1 : ([] : List Wt) ++ sendL 2 4 scrS 3 0 2 ⟨#[101]⟩ = [] := by rfl
theorem sS2 : ([] : List Wt) ++ sendL 2 5 scrS (-7) 0 1 ⟨#[102]⟩ = ([⟨0, 1, ⟨#[102]⟩, 0, 5⟩] : List Wt) := by rfl
theorem eS0 : ([⟨0, 1, ⟨#[98]⟩, 5, 1⟩, ⟨0, 1, ⟨#[98]⟩, 6, 1⟩, ⟨0, 1, ⟨#[99]⟩, 1, 2⟩, ⟨0, 1, ⟨#[100]⟩, 0, 3⟩] : List Wt).erase (best ([⟨0, 1, ⟨#[98]⟩, 5, 1⟩, ⟨0, 1, ⟨#[98]⟩, 6, 1⟩, ⟨0, 1, ⟨#[99]⟩, 1, 2⟩, ⟨0, 1, ⟨#[100]⟩, 0, 3⟩] : List Wt)) = ([⟨0, 1, ⟨#[98]⟩, 5, 1⟩, ⟨0, 1, ⟨#[98]⟩, 6, 1⟩, ⟨0, 1, ⟨#[99]⟩, 1, 2⟩] : List Wt) := by decide
theorem eS1 : ([⟨0, 1, ⟨#[98]⟩, 5, 1⟩, ⟨0, 1, ⟨#[98]⟩, 6, 1⟩, ⟨0, 1, ⟨#[99]⟩, 1, 2⟩] : List Wt).erase (best ([⟨0, 1, ⟨#[98]⟩, 5, 1⟩, ⟨0, 1, ⟨#[98]⟩, 6, 1⟩, ⟨0, 1, ⟨#[99]⟩, 1, 2⟩] : List Wt)) = ([⟨0, 1, ⟨#[98]⟩, 5, 1⟩, ⟨0, 1, ⟨#[98]⟩, 6, 1⟩] : List Wt) := by decide
theorem eS2 : ([⟨0, 1, ⟨#[98]⟩, 5, 1⟩, ⟨0, 1, ⟨#[98]⟩, 6, 1⟩] : List Wt).erase (best ([⟨0, 1, ⟨#[98]⟩, 5, 1⟩, ⟨0, 1, ⟨#[98]⟩, 6, 1⟩] : List Wt)) = ([⟨0, 1, ⟨#[98]⟩, 6, 1⟩] : List Wt) := by decide
theorem eS3 : ([⟨0, 1, ⟨#[98]⟩, 6, 1⟩] : List Wt).erase (best ([⟨0, 1, ⟨#[98]⟩, 6, 1⟩] : List Wt)) = ([] : List Wt) := by decide
theorem mS_len (k : Nat) (h : k ≤ 4) : (mS k).length ≤ 4 := by
  have : k = 0 ∨ k = 1 ∨ k = 2 ∨ k = 3 ∨ k = 4 := by omega
  rcases this with rfl | rfl | rfl | rfl | rfl <;> decide

set_option maxRecDepth 100000 in
set_option maxHeartbeats 4000000 in
theorem sanity_any (w0 : World) : Calls Try.prog 10 #[] w0 fun e w' => e = .returned (.bool true) ∧ Below w0.heap.size w0 w' := by
  have S0 := Lib.hid (SR.block (scr := scrS) (Blk.new w0 #[.bool true, .int .i64 0, .int .i64 0, .bool false, .int .i64 2, .int .i64 5, .bool false, .int .i64 1, .int .i64 1] 43 rfl))
  have B0 := Lib.hid (balloc (Below.refl w0.heap.size w0) (.cells #[.bool true, .int .i64 0, .int .i64 0, .bool false, .int .i64 2, .int .i64 5, .bool false, .int .i64 1, .int .i64 1] 43))
  go_enter Try.func10, Try.ntmps10
  go_wp2_with fail
  refine (lw_new 2 _ scrS _ S0.out (by decide)).mono ?_
  rintro e w1 ⟨l, rfl, a1, a2⟩
  have L0 := a1.quiet (balloc (Below.refl _ w1) (.cells #[.string ⟨#[97]⟩, .string ⟨#[98]⟩, .string ⟨#[99]⟩, .string ⟨#[100]⟩] 9))
  have HB1 := balloc (bthen' B0.out a2) (.cells #[.string ⟨#[97]⟩, .string ⟨#[98]⟩, .string ⟨#[99]⟩, .string ⟨#[100]⟩] 9)
  have R1 := Lib.hid (Blk.new w1 #[.string ⟨#[97]⟩, .string ⟨#[98]⟩, .string ⟨#[99]⟩, .string ⟨#[100]⟩] 9 rfl)
  have hsz : w0.heap.size ≤ w1.heap.size := (bthen' B0.out a2).size
  have hl1 : w1.heap.size < (w1.alloc (.cells #[.string ⟨#[97]⟩, .string ⟨#[98]⟩, .string ⟨#[99]⟩, .string ⟨#[100]⟩] 9)).heap.size := by simp
  obtain ⟨A, hA⟩ : ∃ A : Nat → Prop, A = fun i => i < w0.heap.size ∨ i = w1.heap.size := ⟨_, rfl⟩
  have L1 : Hid (LW (w1.alloc (.cells #[.string ⟨#[97]⟩, .string ⟨#[98]⟩, .string ⟨#[99]⟩, .string ⟨#[100]⟩] 9)) A l 2 0 scrS []) := by
    refine Lib.hid ?_
    obtain ⟨hg, q, s, vs, hL, h1, h2, h3, h4⟩ := a1
    have hl := hL.lt
    subst hA
    have key : ∀ i, i < w1.heap.size → ¬ (i < (w0.alloc (.cells #[.bool true, .int .i64 0, .int .i64 0, .bool false, .int .i64 2, .int .i64 5, .bool false, .int .i64 1, .int .i64 1] 43)).heap.size) → ¬ (i < w0.heap.size ∨ i = w1.heap.size) := by
      intro i hi h e
      simp at h
      omega
    exact LW.quiet ⟨hg, q, s, vs, hL, key _ hl.1 h1, key _ hl.2.1 h2, fun g e => key _ (hl.2.2.1 g e) (h3 g e), fun g e => key _ (hl.2.2.2 g e) (h4 g e)⟩ (balloc (Below.refl _ w1) (.cells #[.string ⟨#[97]⟩, .string ⟨#[98]⟩, .string ⟨#[99]⟩, .string ⟨#[100]⟩] 9))
  have H1 := Lib.hid HB1
  have AA : Hid (∀ i, A i → i < (w1.alloc (.cells #[.string ⟨#[97]⟩, .string ⟨#[98]⟩, .string ⟨#[99]⟩, .string ⟨#[100]⟩] 9)).heap.size) := Lib.hid (by intro i hi; subst hA; rcases hi with h | h <;> omega)
  have AG : Hid (A w1.heap.size) := Lib.hid (by subst hA; exact .inr rfl)
  have AB : Hid (∀ i, ¬ A i → w0.heap.size ≤ i) := Lib.hid (by intro i hi; subst hA; simp at hi; omega)
  clear a1 a2 S0 B0 L0 HB1 hsz hl1 hA
  go_wp2_with fail
  generalize hw : w1.alloc (.cells #[.string ⟨#[97]⟩, .string ⟨#[98]⟩, .string ⟨#[99]⟩, .string ⟨#[100]⟩] 9) = w2 at *
  clear hw
  generalize w1.heap.size = g at *
  clear w1
  go_loopw [20] (fun i wr => ∃ k : Nat, i = .int .i64 k ∧ k ≤ 4 ∧ Hid (LW wr A l 2 k scrS (mS k)) ∧ Hid (Below w0.heap.size w0 wr) ∧ Hid (Blk wr g #[.string ⟨#[97]⟩, .string ⟨#[98]⟩, .string ⟨#[99]⟩, .string ⟨#[100]⟩] 9) ∧ Hid (w2.heap.size ≤ wr.heap.size)) (fun i _ => 4 - (intOf i).toNat)
  case atStart => exact ⟨0, rfl, by decide, L1, H1, R1, Lib.hid (Nat.le_refl _)⟩
  case round =>
    clear L1 H1 R1
    obtain ⟨k, rfl, hk, L1, H1, R1, Z1⟩ := hrel
    by_cases hk4 : k < 4
    · obtain ⟨tx, htx⟩ : ∃ tx, tx = txS k := ⟨_, rfl⟩
      have c0 : wr.cell? ⟨g, k, none⟩ = some (.string tx) := by
        rw [R1.out.cell, htx]
        have : k = 0 ∨ k = 1 ∨ k = 2 ∨ k = 3 := by omega
        rcases this with rfl | rfl | rfl | rfl <;> rfl
      have X := Lib.hid htx
      clear htx
      go_wp2_with fail
      refine (told_any tx _).mono ?_
      rintro e w3 ⟨rfl, b1⟩
      have L3 := Lib.hid (L1.out.quiet b1)
      have H3 := Lib.hid (bthen' H1.out b1)
      have R3 := Lib.hid (R1.out.below b1)
      have Z3 := Lib.hid (Nat.le_trans Z1.out b1.size)
      clear b1 c0 L1 H1 R1 Z1
      go_wp2_with fail
      refine (lw_send A l k 2 scrS (mS k) 0 0 1 tx w3 L3.out (by omega) (by have := mS_len k hk; omega) (by decide) (fun i hi => Nat.lt_of_lt_of_le (AA.out i hi) Z3.out)).mono ?_
      rintro e w4 ⟨rfl, d1, d2⟩
      have L4 := Lib.hid d1
      have H4 := Lib.hid (H3.out.trans (d2.below H3.out.size AB.out))
      have R4_ := Lib.hid (d2.blk R3.out (fun h => h AG.out))
      have Z4 := Lib.hid (Nat.le_trans Z3.out d2.size)
      clear d1 d2 L3 H3 R3 Z3
      go_wp2
      go_roundw
      case rel =>
        refine ⟨k + 1, rfl, by omega, ?_, H4, R4_, Z4⟩
        show Hid (LW w4 A l 2 (k + 1) scrS (mS k ++ sendL 2 k scrS 0 0 1 (txS k)))
        rw [← X.out]
        exact L4
      case measure => simp [intOf]; omega
    · have e : k = 4 := by omega
      subst e
      rw [mS4] at L1
      clear R1
      go_wp2_with fail
      refine (gives_yes A l 4 2 scrS ([⟨0, 1, ⟨#[98]⟩, 5, 1⟩, ⟨0, 1, ⟨#[98]⟩, 6, 1⟩, ⟨0, 1, ⟨#[99]⟩, 1, 2⟩, ⟨0, 1, ⟨#[100]⟩, 0, 3⟩] : List Wt) ⟨#[100]⟩ 0 _ L1.out (by simp) rfl rfl).mono ?_
      rintro e v10 ⟨rfl, d1, d2⟩
      rw [eS0] at d1
      have L10 := Lib.hid d1
      have H10 := Lib.hid (H1.out.trans (d2.below H1.out.size AB.out))
      have Z10 := Lib.hid (Nat.le_trans Z1.out d2.size)
      clear d1 d2 L1 H1 Z1
      go_wp2_with fail
      refine (gives_yes A l 4 2 scrS ([⟨0, 1, ⟨#[98]⟩, 5, 1⟩, ⟨0, 1, ⟨#[98]⟩, 6, 1⟩, ⟨0, 1, ⟨#[99]⟩, 1, 2⟩] : List Wt) ⟨#[99]⟩ 1 _ L10.out (by simp) rfl rfl).mono ?_
      rintro e v11 ⟨rfl, d1, d2⟩
      rw [eS1] at d1
      have L11 := Lib.hid d1
      have H11 := Lib.hid (H10.out.trans (d2.below H10.out.size AB.out))
      have Z11 := Lib.hid (Nat.le_trans Z10.out d2.size)
      clear d1 d2 L10 H10 Z10
      go_wp2_with fail
      refine (gives_yes A l 4 2 scrS ([⟨0, 1, ⟨#[98]⟩, 5, 1⟩, ⟨0, 1, ⟨#[98]⟩, 6, 1⟩] : List Wt) ⟨#[98]⟩ 5 _ L11.out (by simp) rfl rfl).mono ?_
      rintro e v12 ⟨rfl, d1, d2⟩
      rw [eS2] at d1
      have L12 := Lib.hid d1
      have H12 := Lib.hid (H11.out.trans (d2.below H11.out.size AB.out))
      have Z12 := Lib.hid (Nat.le_trans Z11.out d2.size)
      clear d1 d2 L11 H11 Z11
      go_wp2_with fail
      refine (gives_yes A l 4 2 scrS ([⟨0, 1, ⟨#[98]⟩, 6, 1⟩] : List Wt) ⟨#[98]⟩ 6 _ L12.out (by simp) rfl rfl).mono ?_
      rintro e v13 ⟨rfl, d1, d2⟩
      rw [eS3] at d1
      have L13 := Lib.hid d1
      have H13 := Lib.hid (H12.out.trans (d2.below H12.out.size AB.out))
      have Z13 := Lib.hid (Nat.le_trans Z12.out d2.size)
      clear d1 d2 L12 H12 Z12
      go_wp2_with fail
      refine (lw_none A l 4 2 scrS _ L13.out).mono ?_
      rintro e v14 ⟨rfl, d1, d2⟩
      have L14 := Lib.hid (d1.quiet (balloc (Below.refl _ v14) (.cells #[.int .i64 0, .int .i64 0, .string ⟨#[]⟩] 31)))
      have H14 := Lib.hid (balloc (bthen' H13.out d2) (.cells #[.int .i64 0, .int .i64 0, .string ⟨#[]⟩] 31))
      have Z14 := Lib.hid (Nat.le_trans (Nat.le_trans Z13.out d2.size) (balloc (Below.refl _ v14) (.cells #[.int .i64 0, .int .i64 0, .string ⟨#[]⟩] 31)).size)
      clear d1 d2 L13 H13 Z13
      go_wp2_with fail
      refine (lw_send A l 4 2 scrS ([] : List Wt) (3) 0 2 ⟨#[101]⟩ _ L14.out (by decide) (by decide) (by decide) (fun i hi => Nat.lt_of_lt_of_le (AA.out i hi) Z14.out)).mono ?_
      rintro e v15 ⟨rfl, d1, d2⟩
      rw [sS1] at d1
      have L15 := Lib.hid d1
      have H15 := Lib.hid (H14.out.trans (d2.below H14.out.size AB.out))
      have Z15 := Lib.hid (Nat.le_trans Z14.out d2.size)
      clear d1 d2 L14 H14 Z14
      go_wp2_with fail
      refine (lw_none A l 5 2 scrS _ L15.out).mono ?_
      rintro e v16 ⟨rfl, d1, d2⟩
      have L16 := Lib.hid (d1.quiet (balloc (Below.refl _ v16) (.cells #[.int .i64 0, .int .i64 0, .string ⟨#[]⟩] 31)))
      have H16 := Lib.hid (balloc (bthen' H15.out d2) (.cells #[.int .i64 0, .int .i64 0, .string ⟨#[]⟩] 31))
      have Z16 := Lib.hid (Nat.le_trans (Nat.le_trans Z15.out d2.size) (balloc (Below.refl _ v16) (.cells #[.int .i64 0, .int .i64 0, .string ⟨#[]⟩] 31)).size)
      clear d1 d2 L15 H15 Z15
      go_wp2_with fail
      refine (told_any ⟨#[102]⟩ _).mono ?_
      rintro e v17 ⟨rfl, d2⟩
      have L17 := Lib.hid (L16.out.quiet d2)
      have H17 := Lib.hid (bthen' H16.out d2)
      have Z17 := Lib.hid (Nat.le_trans Z16.out d2.size)
      clear d2 L16 H16 Z16
      go_wp2_with fail
      refine (lw_send A l 5 2 scrS ([] : List Wt) (-7) 0 1 ⟨#[102]⟩ _ L17.out (by decide) (by decide) (by decide) (fun i hi => Nat.lt_of_lt_of_le (AA.out i hi) Z17.out)).mono ?_
      rintro e v18 ⟨rfl, d1, d2⟩
      rw [sS2] at d1
      have L18 := Lib.hid d1
      have H18 := Lib.hid (H17.out.trans (d2.below H17.out.size AB.out))
      have Z18 := Lib.hid (Nat.le_trans Z17.out d2.size)
      clear d1 d2 L17 H17 Z17
      go_wp2_with fail
      refine (gives_yes A l 6 2 scrS ([⟨0, 1, ⟨#[102]⟩, 0, 5⟩] : List Wt) ⟨#[102]⟩ 0 _ L18.out (by simp) rfl rfl).mono ?_
      rintro e v19 ⟨rfl, d1, d2⟩
      have H19 := Lib.hid (H18.out.trans (d2.below H18.out.size AB.out))
      have Z19 := Lib.hid (Nat.le_trans Z18.out d2.size)
      clear d1 d2 L18 H18 Z18
      go_wp2
      go_ret
      exact ⟨rfl, H19.out⟩

end Go.Proofs.Ytemcbaacefjfnaa
