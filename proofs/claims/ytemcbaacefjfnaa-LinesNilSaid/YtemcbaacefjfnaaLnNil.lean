/- The walk of LinesNil. -/
import Derived.Test.YtemcbaacefjfnaaLnM
set_option linter.unusedVariables false
set_option linter.unusedSimpArgs false
namespace Go.Proofs.Ytemcbaacefjfnaa
open Go.RowKit Go.Proofs.YtemcbaacefjfnaaW.PrintWords Go.Proofs.YtemcbaacefjfnaaW.PrintLast

set_option maxRecDepth 100000 in
set_option maxHeartbeats 2000000 in
theorem send_nil (due ma mb : Int) (txt : ByteArray) (w0 : World) :
    Calls Try.prog 15 #[.pointer none, .int .i64 due, .agg #[.int .i64 ma, .int .i64 mb, .string txt]] w0 fun e w' => e = .returned (.tuple #[]) ∧ Below w0.heap.size w0 w' := by
  have H := Lib.hid (balloc (Below.refl w0.heap.size w0) (.cells #[.int .i64 ma, .int .i64 mb, .string txt] 31))
  go_enter Try.func15, Try.ntmps15
  go_wp2
  refine bodyPost_ret (results_none rfl _ _ _) rfl ?_
  exact ⟨rfl, H.out⟩

set_option maxRecDepth 100000 in
set_option maxHeartbeats 2000000 in
theorem send_zero (due ma mb : Int) (txt : ByteArray) (w0 : World) {l : Nat} (hz : Blk w0 l #[.int .i64 0, .int .i64 0, .slice none 0 0, .nilIface] 59) :
    Calls Try.prog 15 #[.pointer (some ⟨l, 0, none⟩), .int .i64 due, .agg #[.int .i64 ma, .int .i64 mb, .string txt]] w0 fun e w' => e = .returned (.tuple #[]) ∧ Below w0.heap.size w0 w' := by
  have H := Lib.hid (balloc (Below.refl w0.heap.size w0) (.cells #[.int .i64 ma, .int .i64 mb, .string txt] 31))
  have c3 : (w0.alloc (.cells #[.int .i64 ma, .int .i64 mb, .string txt] 31)).cell? ⟨l, 3, none⟩ = some .nilIface := (hz.alloc _).cell 3
  go_enter Try.func15, Try.ntmps15
  go_wp2
  refine bodyPost_ret (results_none rfl _ _ _) rfl ?_
  exact ⟨rfl, H.out⟩

set_option maxRecDepth 100000 in
set_option maxHeartbeats 2000000 in
theorem next_nil (w0 : World) :
    Calls Try.prog 20 #[.pointer none] w0 fun e w' => e = .returned (.tuple #[.agg #[.int .i64 0, .int .i64 0, .string ⟨#[]⟩], .int .i64 0, .bool false]) ∧ Below w0.heap.size w0 w' := by
  have H := Lib.hid (balloc (Below.refl w0.heap.size w0) (.cells #[.int .i64 0, .int .i64 0, .string ⟨#[]⟩] 31))
  have B := Lib.hid (Blk.new w0 #[.int .i64 0, .int .i64 0, .string ⟨#[]⟩] 31 rfl)
  go_enter Try.func20, Try.ntmps20
  go_wp2
  refine bodyPost_ret (res_ctt rfl _ _ w0.heap.size 31 #[.int .i64 0, .int .i64 0, .string ⟨#[]⟩] _ rfl B.out rfl Try.underlying31 (by kernel_rfl)) rfl ?_
  exact ⟨rfl, H.out⟩

set_option maxRecDepth 100000 in
set_option maxHeartbeats 2000000 in
theorem next_zero (w0 : World) {l : Nat} (hz : Blk w0 l #[.int .i64 0, .int .i64 0, .slice none 0 0, .nilIface] 59) :
    Calls Try.prog 20 #[.pointer (some ⟨l, 0, none⟩)] w0 fun e w' => e = .returned (.tuple #[.agg #[.int .i64 0, .int .i64 0, .string ⟨#[]⟩], .int .i64 0, .bool false]) ∧ Below w0.heap.size w0 w' := by
  have H := Lib.hid (balloc (Below.refl w0.heap.size w0) (.cells #[.int .i64 0, .int .i64 0, .string ⟨#[]⟩] 31))
  have B := Lib.hid (Blk.new w0 #[.int .i64 0, .int .i64 0, .string ⟨#[]⟩] 31 rfl)
  have c3 : (w0.alloc (.cells #[.int .i64 0, .int .i64 0, .string ⟨#[]⟩] 31)).cell? ⟨l, 3, none⟩ = some .nilIface := (hz.alloc _).cell 3
  go_enter Try.func20, Try.ntmps20
  go_wp2
  refine bodyPost_ret (res_ctt rfl _ _ w0.heap.size 31 #[.int .i64 0, .int .i64 0, .string ⟨#[]⟩] _ rfl B.out rfl Try.underlying31 (by kernel_rfl)) rfl ?_
  exact ⟨rfl, H.out⟩

theorem SR.none (w : World) (b : Nat) : SR w b (.slice none 0 0) [] := .inl ⟨rfl, rfl⟩
theorem sendL_none (n : Int) (hn : n ≤ 0) (sent : Nat) (scr : List Tb) (due a b : Int) (txt : ByteArray) : sendL n sent scr due a b txt = [] := by
  have h : nodeB n a = false := by simp [nodeB]; omega
  unfold sendL
  rw [if_pos (.inr (.inl h))]

/-- the lines lie in the blocks from p to q, and in none older or younger -/
theorem lw_idle (l : Nat) (n : Int) (hn : n ≤ 0) (A : Nat → Prop) (due ma mb : Int) (txt : ByteArray) (w0 : World) (hL : LW w0 A l n 0 [] []) (hB : ∀ i, A i → i < w0.heap.size) :
    Calls Try.prog 15 #[.pointer (some ⟨l, 0, none⟩), .int .i64 due, .agg #[.int .i64 ma, .int .i64 mb, .string txt]] w0 fun e w' => e = .returned (.tuple #[]) ∧ LW w' A l n 1 [] [] ∧ Touch w0 w' (fun k => ¬ A k) := by
  refine (lw_send A l 0 n [] [] due ma mb txt w0 hL (by decide) (by simp) (by simp) hB).mono ?_
  rintro e w' ⟨rfl, h1, h2⟩
  rw [sendL_none n hn] at h1
  exact ⟨rfl, h1, h2⟩

set_option maxRecDepth 100000 in
set_option maxHeartbeats 4000000 in
theorem linesNil_walk (due ma mb : Int) (txt : ByteArray) (w0 : World) :
    Calls Try.prog 9 #[.int .i64 due, .agg #[.int .i64 ma, .int .i64 mb, .string txt]] w0 fun e w' => e = .returned (.bool true) ∧ Below w0.heap.size w0 w' := by
  have B0 := Lib.hid (balloc (Below.refl w0.heap.size w0) (.cells #[.int .i64 ma, .int .i64 mb, .string txt] 31))
  have M0 := Lib.hid (Blk.new w0 #[.int .i64 ma, .int .i64 mb, .string txt] 31 rfl)
  go_enter Try.func9, Try.ntmps9
  go_wp2_with fail
  refine (sanity_any _).mono ?_
  rintro e w1 ⟨rfl, b1⟩
  have B1 := Lib.hid (balloc (bthen' B0.out b1) (.cells #[.int .i64 0, .int .i64 0, .slice none 0 0, .nilIface] 59))
  have M1 := Lib.hid ((M0.out.below b1).alloc (.cells #[.int .i64 0, .int .i64 0, .slice none 0 0, .nilIface] 59))
  have Z1 := Lib.hid (Blk.new w1 #[.int .i64 0, .int .i64 0, .slice none 0 0, .nilIface] 59 rfl)
  clear b1 B0 M0
  go_wp2_with fail
  generalize hw : w1.alloc (.cells #[.int .i64 0, .int .i64 0, .slice none 0 0, .nilIface] 59) = w2 at *
  clear hw
  generalize w1.heap.size = z at *
  clear w1
  refine (lw_new 0 _ [] w2 (SR.none _ _) (by simp)).mono ?_
  rintro e w3 ⟨l2, rfl, a1, a2⟩
  have L2 := Lib.hid a1
  have B2 := Lib.hid (bthen' B1.out a2)
  have M2 := Lib.hid (M1.out.below a2)
  have Z2 := Lib.hid (Z1.out.below a2)
  have S2 := Lib.hid (And.intro B1.out.size a2.size)
  have lt := Lib.hid (And.intro M1.out.lt Z1.out.lt)
  clear a1 a2 B1 M1 Z1
  go_wp2_with fail
  refine (lw_new (-3) _ [] w3 (SR.none _ _) (by simp)).mono ?_
  rintro e w4 ⟨l3, rfl, a1, a2⟩
  have L3 := Lib.hid ((a1.mono (A' := fun i => ¬ (w3.heap.size ≤ i ∧ i < w4.heap.size)) (fun i hi h => by simp at h ⊢; omega)).quiet (balloc (Below.refl _ w4) (.cells #[.pointer none, .pointer (some ⟨z, 0, none⟩), .pointer (some ⟨l2, 0, none⟩), .pointer (some ⟨l3, 0, none⟩)] 25)))
  have L2' := Lib.hid ((L2.out.mono (A' := fun i => ¬ (w2.heap.size ≤ i ∧ i < w3.heap.size)) (fun i hi h => by simp at h ⊢; omega)).quiet a2)
  have L2q := Lib.hid (L2'.out.quiet (balloc (Below.refl _ w4) (.cells #[.pointer none, .pointer (some ⟨z, 0, none⟩), .pointer (some ⟨l2, 0, none⟩), .pointer (some ⟨l3, 0, none⟩)] 25)))
  have B3 := Lib.hid (balloc (bthen' B2.out a2) (.cells #[.pointer none, .pointer (some ⟨z, 0, none⟩), .pointer (some ⟨l2, 0, none⟩), .pointer (some ⟨l3, 0, none⟩)] 25))
  have M3 := Lib.hid ((M2.out.below a2).alloc (.cells #[.pointer none, .pointer (some ⟨z, 0, none⟩), .pointer (some ⟨l2, 0, none⟩), .pointer (some ⟨l3, 0, none⟩)] 25))
  have Z3 := Lib.hid ((Z2.out.below a2).alloc (.cells #[.pointer none, .pointer (some ⟨z, 0, none⟩), .pointer (some ⟨l2, 0, none⟩), .pointer (some ⟨l3, 0, none⟩)] 25))
  have P3 := Lib.hid (Blk.new w4 #[.pointer none, .pointer (some ⟨z, 0, none⟩), .pointer (some ⟨l2, 0, none⟩), .pointer (some ⟨l3, 0, none⟩)] 25 rfl)
  have S3 := Lib.hid (And.intro S2.out a2.size)
  clear a1 a2 B2 M2 Z2 S2 L2 L2'
  go_wp2_with fail
  obtain ⟨g, hg⟩ : ∃ g, g = w4.heap.size := ⟨_, rfl⟩
  rw [← hg] at P3 ⊢
  generalize w4.alloc (.cells #[.pointer none, .pointer (some ⟨z, 0, none⟩), .pointer (some ⟨l2, 0, none⟩), .pointer (some ⟨l3, 0, none⟩)] 25) = w5 at *
  obtain ⟨s0, hs0⟩ : ∃ s0, s0 = w2.heap.size := ⟨_, rfl⟩
  obtain ⟨s1, hs1⟩ : ∃ s1, s1 = w3.heap.size := ⟨_, rfl⟩
  obtain ⟨b0, hb0⟩ : ∃ b0, b0 = w0.heap.size := ⟨_, rfl⟩
  have FF : Hid (b0 ≤ s0 ∧ s0 ≤ s1 ∧ s1 ≤ g ∧ b0 < s0 ∧ z < s0) := Lib.hid (by
    have h1 := S3.out
    have h2 := lt.out
    subst hs0 hs1 hg hb0
    exact ⟨h1.1.1, h1.1.2, h1.2, h2.1, h2.2⟩)
  rw [← hs0, ← hs1] at L2q
  rw [← hs1, ← hg] at L3
  rw [← hb0] at M3 B3 ⊢
  have HB0 := Lib.hid hb0
  clear hs0 hs1 hg hb0 S3 lt
  clear w2 w3 w4
  go_loopw [22] (fun i wr => ∃ k : Nat, i = .int .i64 k ∧ k ≤ 4 ∧ Hid (k ≤ 2 → LW wr (fun i => ¬ (s0 ≤ i ∧ i < s1)) l2 0 0 [] []) ∧ Hid (k ≤ 3 → LW wr (fun i => ¬ (s1 ≤ i ∧ i < g)) l3 (-3) 0 [] []) ∧ Hid (Blk wr z #[.int .i64 0, .int .i64 0, .slice none 0 0, .nilIface] 59) ∧ Hid (Blk wr b0 #[.int .i64 ma, .int .i64 mb, .string txt] 31) ∧ Hid (Blk wr g #[.pointer none, .pointer (some ⟨z, 0, none⟩), .pointer (some ⟨l2, 0, none⟩), .pointer (some ⟨l3, 0, none⟩)] 25) ∧ Hid (Below b0 w0 wr)) (fun i _ => 4 - (intOf i).toNat)
  case atStart => exact ⟨0, rfl, by omega, Lib.hid (fun _ => L2q.out), Lib.hid (fun _ => L3.out), Z3, M3, P3, B3⟩
  case round =>
    clear L2q L3 Z3 M3 P3 B3
    obtain ⟨k, rfl, hk, L2, L3, Z, M, P, B⟩ := hrel
    by_cases hk4 : k = 4
    · subst hk4
      go_wp2
      go_ret
      exact ⟨rfl, by rw [← HB0.out]; exact B.out⟩
    · have m0 : wr.cell? ⟨b0, 0, none⟩ = some (.int .i64 ma) := M.out.cell 0
      have m1 : wr.cell? ⟨b0, 1, none⟩ = some (.int .i64 mb) := M.out.cell 1
      have m2 : wr.cell? ⟨b0, 2, none⟩ = some (.string txt) := M.out.cell 2
      have h4 : k = 0 ∨ k = 1 ∨ k = 2 ∨ k = 3 := by omega
      rcases h4 with rfl | rfl | rfl | rfl
      · have p0 : wr.cell? ⟨g, 0, none⟩ = some (.pointer none) := P.out.cell 0
        go_wp2_with fail
        refine (send_nil due ma mb txt _).mono ?_
        rintro e v1 ⟨rfl, d⟩
        have L2a : Hid (0 ≤ 2 → LW v1 (fun i => ¬ (s0 ≤ i ∧ i < s1)) l2 0 0 [] []) := Lib.hid (fun h => (L2.out h).quiet d)
        have L3a := Lib.hid (fun h => (L3.out h).quiet d)
        have Za := Lib.hid (Z.out.below d)
        have Ma := Lib.hid (M.out.below d)
        have Pa := Lib.hid (P.out.below d)
        have Ba := Lib.hid (B.out.trans (by have h := B.out.size; rw [← HB0.out] at h; exact ⟨d.os, d.tape, d.output, d.size, fun i hi => d.block i (Nat.lt_of_lt_of_le hi h)⟩))
        clear d m0 m1 m2 p0 L2 L3 Z M P B
        go_wp2_with fail
        refine (next_nil _).mono ?_
        rintro e v2 ⟨rfl, d⟩
        have q := balloc d (.cells #[.int .i64 0, .int .i64 0, .string ⟨#[]⟩] 31)
        have L2b : Hid (1 ≤ 2 → LW (v2.alloc (.cells #[.int .i64 0, .int .i64 0, .string ⟨#[]⟩] 31)) (fun i => ¬ (s0 ≤ i ∧ i < s1)) l2 0 0 [] []) := Lib.hid (fun h => (L2a.out (by omega)).quiet q)
        have L3b : Hid (1 ≤ 3 → LW (v2.alloc (.cells #[.int .i64 0, .int .i64 0, .string ⟨#[]⟩] 31)) (fun i => ¬ (s1 ≤ i ∧ i < g)) l3 (-3) 0 [] []) := Lib.hid (fun h => (L3a.out (by omega)).quiet q)
        have Zb := Lib.hid (Za.out.below q)
        have Mb := Lib.hid (Ma.out.below q)
        have Pb := Lib.hid (Pa.out.below q)
        have Bb := Lib.hid (Ba.out.trans (by have h := Ba.out.size; rw [← HB0.out] at h; exact ⟨q.os, q.tape, q.output, q.size, fun i hi => q.block i (Nat.lt_of_lt_of_le hi h)⟩))
        clear d q Za Ma Pa Ba L2a L3a
        go_wp2
        go_roundw
        case rel => exact ⟨1, rfl, by omega, L2b, L3b, Zb, Mb, Pb, Bb⟩
        case measure => simp [intOf]
      · have p0 : wr.cell? ⟨g, 1, none⟩ = some (.pointer (some ⟨z, 0, none⟩)) := P.out.cell 1
        go_wp2_with fail
        refine (send_zero due ma mb txt _ Z.out).mono ?_
        rintro e v1 ⟨rfl, d⟩
        have L2a : Hid (1 ≤ 2 → LW v1 (fun i => ¬ (s0 ≤ i ∧ i < s1)) l2 0 0 [] []) := Lib.hid (fun h => (L2.out h).quiet d)
        have L3a := Lib.hid (fun h => (L3.out h).quiet d)
        have Za := Lib.hid (Z.out.below d)
        have Ma := Lib.hid (M.out.below d)
        have Pa := Lib.hid (P.out.below d)
        have Ba := Lib.hid (B.out.trans (by have h := B.out.size; rw [← HB0.out] at h; exact ⟨d.os, d.tape, d.output, d.size, fun i hi => d.block i (Nat.lt_of_lt_of_le hi h)⟩))
        clear d m0 m1 m2 p0 L2 L3 Z M P B
        go_wp2_with fail
        refine (next_zero _ Za.out).mono ?_
        rintro e v2 ⟨rfl, d⟩
        have q := balloc d (.cells #[.int .i64 0, .int .i64 0, .string ⟨#[]⟩] 31)
        have L2b : Hid (2 ≤ 2 → LW (v2.alloc (.cells #[.int .i64 0, .int .i64 0, .string ⟨#[]⟩] 31)) (fun i => ¬ (s0 ≤ i ∧ i < s1)) l2 0 0 [] []) := Lib.hid (fun h => (L2a.out (by omega)).quiet q)
        have L3b : Hid (2 ≤ 3 → LW (v2.alloc (.cells #[.int .i64 0, .int .i64 0, .string ⟨#[]⟩] 31)) (fun i => ¬ (s1 ≤ i ∧ i < g)) l3 (-3) 0 [] []) := Lib.hid (fun h => (L3a.out (by omega)).quiet q)
        have Zb := Lib.hid (Za.out.below q)
        have Mb := Lib.hid (Ma.out.below q)
        have Pb := Lib.hid (Pa.out.below q)
        have Bb := Lib.hid (Ba.out.trans (by have h := Ba.out.size; rw [← HB0.out] at h; exact ⟨q.os, q.tape, q.output, q.size, fun i hi => q.block i (Nat.lt_of_lt_of_le hi h)⟩))
        clear d q Za Ma Pa Ba L2a L3a
        go_wp2
        go_roundw
        case rel => exact ⟨2, rfl, by omega, L2b, L3b, Zb, Mb, Pb, Bb⟩
        case measure => simp [intOf]
      · have p0 : wr.cell? ⟨g, 2, none⟩ = some (.pointer (some ⟨l2, 0, none⟩)) := P.out.cell 2
        go_wp2_with fail
        have LA := (L2.out (by omega)).mono (A' := fun i => ¬ (s0 ≤ i ∧ i < s1) ∧ i < wr.heap.size) (fun i _ h => h.1)
        refine (lw_idle l2 0 (by decide) _ due ma mb txt wr LA (fun i h => h.2)).mono ?_
        rintro e v1 ⟨rfl, d1, d⟩
        have F := FF.out
        clear LA
        have LB := Lib.hid d1
        have Za := Lib.hid (d.blk Z.out (fun h => h ⟨by omega, Z.out.lt⟩))
        have Ma := Lib.hid (d.blk M.out (fun h => h ⟨by omega, M.out.lt⟩))
        have Pa := Lib.hid (d.blk P.out (fun h => h ⟨by omega, P.out.lt⟩))
        have Ba := Lib.hid (B.out.trans (d.below (B := b0) (by have h := B.out.size; rw [← HB0.out] at h; exact h) (fun i h => by have h2 := B.out.size; rw [← HB0.out] at h2; by_cases c1 : b0 ≤ i; exact c1; exact absurd ⟨by omega, by omega⟩ h)))
        have L3a : Hid (3 ≤ 3 → LW v1 (fun i => ¬ (s1 ≤ i ∧ i < g)) l3 (-3) 0 [] []) := Lib.hid (fun h => (L3.out (by omega)).touch d (fun i h1 h2 h3 => h3 ⟨by omega, h2⟩))
        clear d1 F
        clear d m0 m1 m2 p0 L2 L3 Z M P B
        go_wp2_with fail
        refine (lw_none _ l2 1 0 [] _ LB.out).mono ?_
        rintro e v2 ⟨rfl, _, d⟩
        have q := balloc d (.cells #[.int .i64 0, .int .i64 0, .string ⟨#[]⟩] 31)
        have L2b : Hid (3 ≤ 2 → LW (v2.alloc (.cells #[.int .i64 0, .int .i64 0, .string ⟨#[]⟩] 31)) (fun i => ¬ (s0 ≤ i ∧ i < s1)) l2 0 0 [] []) := Lib.hid (fun h => by omega)
        have L3b : Hid (3 ≤ 3 → LW (v2.alloc (.cells #[.int .i64 0, .int .i64 0, .string ⟨#[]⟩] 31)) (fun i => ¬ (s1 ≤ i ∧ i < g)) l3 (-3) 0 [] []) := Lib.hid (fun h => (L3a.out (by omega)).quiet q)
        have Zb := Lib.hid (Za.out.below q)
        have Mb := Lib.hid (Ma.out.below q)
        have Pb := Lib.hid (Pa.out.below q)
        have Bb := Lib.hid (Ba.out.trans (by have h := Ba.out.size; rw [← HB0.out] at h; exact ⟨q.os, q.tape, q.output, q.size, fun i hi => q.block i (Nat.lt_of_lt_of_le hi h)⟩))
        clear d q Za Ma Pa Ba LB L3a
        go_wp2
        go_roundw
        case rel => exact ⟨3, rfl, by omega, L2b, L3b, Zb, Mb, Pb, Bb⟩
        case measure => simp [intOf]
      · have p0 : wr.cell? ⟨g, 3, none⟩ = some (.pointer (some ⟨l3, 0, none⟩)) := P.out.cell 3
        go_wp2_with fail
        have LA := (L3.out (by omega)).mono (A' := fun i => ¬ (s1 ≤ i ∧ i < g) ∧ i < wr.heap.size) (fun i _ h => h.1)
        refine (lw_idle l3 (-3) (by decide) _ due ma mb txt wr LA (fun i h => h.2)).mono ?_
        rintro e v1 ⟨rfl, d1, d⟩
        have F := FF.out
        clear LA
        have LB := Lib.hid d1
        have Za := Lib.hid (d.blk Z.out (fun h => h ⟨by omega, Z.out.lt⟩))
        have Ma := Lib.hid (d.blk M.out (fun h => h ⟨by omega, M.out.lt⟩))
        have Pa := Lib.hid (d.blk P.out (fun h => h ⟨by omega, P.out.lt⟩))
        have Ba := Lib.hid (B.out.trans (d.below (B := b0) (by have h := B.out.size; rw [← HB0.out] at h; exact h) (fun i h => by have h2 := B.out.size; rw [← HB0.out] at h2; by_cases c1 : b0 ≤ i; exact c1; exact absurd ⟨by omega, by omega⟩ h)))
        clear d1 F
        clear d m0 m1 m2 p0 L2 L3 Z M P B
        go_wp2_with fail
        refine (lw_none _ l3 1 (-3) [] _ LB.out).mono ?_
        rintro e v2 ⟨rfl, _, d⟩
        have q := balloc d (.cells #[.int .i64 0, .int .i64 0, .string ⟨#[]⟩] 31)
        have L2b : Hid (4 ≤ 2 → LW (v2.alloc (.cells #[.int .i64 0, .int .i64 0, .string ⟨#[]⟩] 31)) (fun i => ¬ (s0 ≤ i ∧ i < s1)) l2 0 0 [] []) := Lib.hid (fun h => by omega)
        have L3b : Hid (4 ≤ 3 → LW (v2.alloc (.cells #[.int .i64 0, .int .i64 0, .string ⟨#[]⟩] 31)) (fun i => ¬ (s1 ≤ i ∧ i < g)) l3 (-3) 0 [] []) := Lib.hid (fun h => by omega)
        have Zb := Lib.hid (Za.out.below q)
        have Mb := Lib.hid (Ma.out.below q)
        have Pb := Lib.hid (Pa.out.below q)
        have Bb := Lib.hid (Ba.out.trans (by have h := Ba.out.size; rw [← HB0.out] at h; exact ⟨q.os, q.tape, q.output, q.size, fun i hi => q.block i (Nat.lt_of_lt_of_le hi h)⟩))
        clear d q Za Ma Pa Ba LB
        go_wp2
        go_roundw
        case rel => exact ⟨4, rfl, by omega, L2b, L3b, Zb, Mb, Pb, Bb⟩
        case measure => simp [intOf]

end Go.Proofs.Ytemcbaacefjfnaa
